/- Parts of the proof, joined: PrsH PrsS PrsI PrsJ PrsK. -/
import Derived.Deep.WholeRow
import Derived.Deep.MidRow
import Derived.Deep.AppendLies
import Derived.Deep.RegionLaw
import Derived.Test.YtfbgdjcnlnfoaaaGreatDoorB03
namespace Go.Proofs.YtfbgdjcnlnfoaaaGreatDoor
open Go.RowKit
open Cle

abbrev stC (x : Sx) (tc c s wv pv : Value) : Array Value := #[.int .i64 x.kind, .string x.name, .string x.of_, .string x.on, .string x.tname, .int .i64 x.tid, .string x.part.name, .int .i64 x.part.ty, .string x.clus.name, .int .i64 x.clus.ty, tc, c, s, wv, .int .i64 x.stamp, .int .i64 x.ttl, .int .i64 x.limit, pv]
abbrev vnil : Value := .slice none 0 0
def clCells (c : Cl) : List Value := [.string c.name, .int .i64 c.ty]
def flatC (l : List Cl) : List Value := l.flatMap clCells
def StRows (w : World) (base : Nat) (x : Sx) (tc c s wv : Value) : Prop :=
  w.ownsRow base 23 2 tc x.tcols.length (flatC x.tcols) ∧ w.ownsRow base 9 1 c x.cols.length (x.cols.map Value.string) ∧ w.ownsRow base 61 4 s x.sets.length (flatR x.sets) ∧ w.ownsRow base 61 4 wv x.wher.length (flatR x.wher)
def GaveSt (K : PK) (w : World) (T : TypeId) (x : Sx) (σ : Ps) : Ending → World → Prop := fun e w' =>
  ∃ tc c s wv, e = .returned (.iface T (.agg (stC x tc c s wv vnil))) ∧ Did K w σ w' ∧ StRows w' w.heap.size x tc c s wv
theorem rows_zero (w : World) (base : Nat) (x : Sx) (h1 : x.tcols = []) (h2 : x.cols = []) (h3 : x.sets = []) (h4 : x.wher = []) : StRows w base x vnil vnil vnil vnil := by
  unfold StRows
  rw [h1, h2, h3, h4]
  exact ⟨World.ownsRow_nil _ _ _ _, World.ownsRow_nil _ _ _ _, World.ownsRow_nil _ _ _ _, World.ownsRow_nil _ _ _ _⟩

section
variable {w : World} {b : Nat} {x : Sx} {tc c s wv pv : Value} {T : TypeId}
theorem st18 (h : w.heap[b]? = some (.cells (stC x tc c s wv pv) T (0, 0))) :
    w.cell? ⟨b, 0, none⟩ = some (.int .i64 x.kind) ∧ w.cell? ⟨b, 1, none⟩ = some (.string x.name) ∧ w.cell? ⟨b, 2, none⟩ = some (.string x.of_) ∧ w.cell? ⟨b, 3, none⟩ = some (.string x.on) ∧ w.cell? ⟨b, 4, none⟩ = some (.string x.tname) ∧ w.cell? ⟨b, 5, none⟩ = some (.int .i64 x.tid) ∧ w.cell? ⟨b, 6, none⟩ = some (.string x.part.name) ∧ w.cell? ⟨b, 7, none⟩ = some (.int .i64 x.part.ty) ∧ w.cell? ⟨b, 8, none⟩ = some (.string x.clus.name) ∧ w.cell? ⟨b, 9, none⟩ = some (.int .i64 x.clus.ty) ∧ w.cell? ⟨b, 10, none⟩ = some (tc) ∧ w.cell? ⟨b, 11, none⟩ = some (c) ∧ w.cell? ⟨b, 12, none⟩ = some (s) ∧ w.cell? ⟨b, 13, none⟩ = some (wv) ∧ w.cell? ⟨b, 14, none⟩ = some (.int .i64 x.stamp) ∧ w.cell? ⟨b, 15, none⟩ = some (.int .i64 x.ttl) ∧ w.cell? ⟨b, 16, none⟩ = some (.int .i64 x.limit) ∧ w.cell? ⟨b, 17, none⟩ = some (pv) :=
  ⟨by rw [blk_cell h]; rfl, by rw [blk_cell h]; rfl, by rw [blk_cell h]; rfl, by rw [blk_cell h]; rfl, by rw [blk_cell h]; rfl, by rw [blk_cell h]; rfl, by rw [blk_cell h]; rfl, by rw [blk_cell h]; rfl, by rw [blk_cell h]; rfl, by rw [blk_cell h]; rfl, by rw [blk_cell h]; rfl, by rw [blk_cell h]; rfl, by rw [blk_cell h]; rfl, by rw [blk_cell h]; rfl, by rw [blk_cell h]; rfl, by rw [blk_cell h]; rfl, by rw [blk_cell h]; rfl, by rw [blk_cell h]; rfl⟩
theorem put_of (h : w.heap[b]? = some (.cells (stC x tc c s wv pv) T (0, 0))) (v : ByteArray) : (w.setCell ⟨b, 2, none⟩ (.string v)).heap[b]? = some (.cells (stC { x with of_ := v } tc c s wv pv) T (0, 0)) := by
  rw [blk_set h 2 _]; rfl
theorem put_on (h : w.heap[b]? = some (.cells (stC x tc c s wv pv) T (0, 0))) (v : ByteArray) : (w.setCell ⟨b, 3, none⟩ (.string v)).heap[b]? = some (.cells (stC { x with on := v } tc c s wv pv) T (0, 0)) := by
  rw [blk_set h 3 _]; rfl
theorem put_tc (h : w.heap[b]? = some (.cells (stC x tc c s wv pv) T (0, 0))) (v : Value) : (w.setCell ⟨b, 10, none⟩ v).heap[b]? = some (.cells (stC x v c s wv pv) T (0, 0)) := by
  rw [blk_set h 10 _]; rfl
theorem put_cols (h : w.heap[b]? = some (.cells (stC x tc c s wv pv) T (0, 0))) (v : Value) : (w.setCell ⟨b, 11, none⟩ v).heap[b]? = some (.cells (stC x tc v s wv pv) T (0, 0)) := by
  rw [blk_set h 11 _]; rfl
theorem put_sets (h : w.heap[b]? = some (.cells (stC x tc c s wv pv) T (0, 0))) (v : Value) : (w.setCell ⟨b, 12, none⟩ v).heap[b]? = some (.cells (stC x tc c v wv pv) T (0, 0)) := by
  rw [blk_set h 12 _]; rfl
theorem put_wher (h : w.heap[b]? = some (.cells (stC x tc c s wv pv) T (0, 0))) (v : Value) : (w.setCell ⟨b, 13, none⟩ v).heap[b]? = some (.cells (stC x tc c s v pv) T (0, 0)) := by
  rw [blk_set h 13 _]; rfl
theorem put_stamp (h : w.heap[b]? = some (.cells (stC x tc c s wv pv) T (0, 0))) (v : Int) : (w.setCell ⟨b, 14, none⟩ (.int .i64 v)).heap[b]? = some (.cells (stC { x with stamp := v } tc c s wv pv) T (0, 0)) := by
  rw [blk_set h 14 _]; rfl
theorem put_ttl (h : w.heap[b]? = some (.cells (stC x tc c s wv pv) T (0, 0))) (v : Int) : (w.setCell ⟨b, 15, none⟩ (.int .i64 v)).heap[b]? = some (.cells (stC { x with ttl := v } tc c s wv pv) T (0, 0)) := by
  rw [blk_set h 15 _]; rfl
theorem put_limit (h : w.heap[b]? = some (.cells (stC x tc c s wv pv) T (0, 0))) (v : Int) : (w.setCell ⟨b, 16, none⟩ (.int .i64 v)).heap[b]? = some (.cells (stC { x with limit := v } tc c s wv pv) T (0, 0)) := by
  rw [blk_set h 16 _]; rfl
end

def Kept (K : PK) (w w' : World) (bx : Nat) : Prop := ∀ k o, K.L ≤ k → k ≠ bx → w.heap[k]? = some o → w'.heap[k]? = some o
section
variable {K : PK} {w0 w w1 w' : World} {σ σ' : Ps} {bx : Nat}
theorem Kept.refl : Kept K w w bx := fun _ _ _ _ h => h
theorem Kept.did (h : Kept K w w1 bx) (hd : Did K w1 σ w') : Kept K w w' bx := fun k o hk hn hb => hd.blk (h k o hk hn hb) hk
theorem Kept.set (h : Kept K w w1 bx) (o : Nat) (v : Value) : Kept K w (w1.setCell ⟨bx, o, none⟩ v) bx := fun k o' hk hn hb => blk_setOther (h k o' hk hn hb) _ _ hn
theorem Kept.trans (h : Kept K w w1 bx) (h' : Kept K w1 w' bx) : Kept K w w' bx := fun k o hk hn hb => h' k o hk hn (h k o hk hn hb)
theorem Kept.row (h : Kept K w w' bx) {base : Nat} {e T : TypeId} {size n : Nat} {u : Value} {xs : List Value} {C : Array Value} {fr : Nat × Nat} (hu : w.ownsRow base e size u n xs) (hb : K.L ≤ base) (hx : w.heap[bx]? = some (.cells C T fr)) (hne : e ≠ T) : w'.ownsRow base e size u n xs := by
  obtain ⟨h1, h2⟩ := hu
  refine ⟨h1, ?_⟩
  rcases h2 with h2 | ⟨g, cap, cur, a, b, c, d⟩
  · exact .inl h2
  · refine .inr ⟨g, cap, cur, a, b, h g _ (by omega) (fun e2 => ?_) c, d⟩
    rw [e2, hx] at c
    injection c with c
    injection c with _ c _
    exact hne c.symm
theorem row_set {base : Nat} {e T : TypeId} {size n : Nat} {u : Value} {xs : List Value} {C : Array Value} {fr : Nat × Nat} (hu : w.ownsRow base e size u n xs) (hx : w.heap[bx]? = some (.cells C T fr)) (hne : e ≠ T) (o : Nat) (v : Value) : (w.setCell ⟨bx, o, none⟩ v).ownsRow base e size u n xs := by
  obtain ⟨h1, h2⟩ := hu
  refine ⟨h1, ?_⟩
  rcases h2 with h2 | ⟨g, cap, cur, a, b, c, d⟩
  · exact .inl h2
  · refine .inr ⟨g, cap, cur, a, b, blk_setOther c _ _ (fun e2 => ?_), d⟩
    rw [e2, hx] at c
    injection c with c
    injection c with _ c _
    exact hne c.symm
end

set_option maxRecDepth 100000 in
set_option maxHeartbeats 2000000 in
theorem using_any {K : PK} {w0 w : World} {σ : Ps} (hD : Did K w0 σ w) {bx : Nat} (hbx : w0.heap.size ≤ bx) {x : Sx} {tc c s wv pv : Value} (hblk : w.heap[bx]? = some (.cells (stC x tc c s wv pv) 31 (0, 0))) (ttl : Bool) :
    Calls Tryz.prog 128 #[.pointer (some ⟨K.b, 0, none⟩), .pointer (some ⟨bx, 0, none⟩), .bool ttl] w fun e w' =>
      e = .returned (.tuple #[]) ∧ Did K w0 (K.X.using_ σ ttl x).2 w' ∧ w'.heap[bx]? = some (.cells (stC (K.X.using_ σ ttl x).1 tc c s wv pv) 31 (0, 0)) ∧ Kept K w w' bx := by
  have hLx : K.L ≤ bx := Nat.le_trans hD.2.2 hbx
  have hm0 := may_any hD.1 (⟨#[117, 115, 105, 110, 103]⟩ : ByteArray)
  have hK0 : Kept K w w bx := Kept.refl
  unfold Tx.may at hm0
  unfold Tx.using_
  cases hs : K.X.sees σ (⟨#[117, 115, 105, 110, 103]⟩ : ByteArray) with
  | false =>
    rw [hs] at hm0
    go_enter Tryz.func128, Tryz.ntmps128
    go_wp2_with fail
    refine hm0.mono ?_; rintro e w1 ⟨rfl, hd1⟩
    go_wp2_with fail
    (first | go_end0 | refine bodyPost_ret (v := .tuple #[]) (by simp [results, Tryz.results128, go_sem]) rfl ?_)
    exact ⟨rfl, hD.trans hd1, hd1.blk hblk hLx, hK0.did hd1⟩
  | true =>
    rw [hs] at hm0
    cases ttl with
    | true =>
      cases ht : K.X.sees σ.step (⟨#[116, 116, 108]⟩ : ByteArray) with
      | true =>
        obtain ⟨⟨n, σ2⟩, hc⟩ : ∃ r, K.X.count σ.step.step = r := ⟨_, rfl⟩
        go_enter Tryz.func128, Tryz.ntmps128
        go_wp2_with fail
        refine hm0.mono ?_; rintro e w1 ⟨rfl, hd1⟩
        have hD1 : Did K w0 σ.step w1 := hD.trans hd1
        have hm1 := may_any hD1.1 (⟨#[116, 116, 108]⟩ : ByteArray)
        unfold Tx.may at hm1
        rw [ht] at hm1
        go_wp2_with fail
        refine hm1.mono ?_; rintro e w2 ⟨rfl, hd2⟩
        have hD2 : Did K w0 σ.step.step w2 := hD1.trans hd2
        have hct := pcount_any hD2.1
        rw [hc] at hct
        go_wp2_with fail
        refine hct.mono ?_; rintro e w3 ⟨rfl, hd3⟩
        have hblk3 := hd3.blk (hd2.blk (hd1.blk hblk hLx) hLx) hLx
        have t15 := (st18 hblk3).2.2.2.2.2.2.2.2.2.2.2.2.2.2.2.1
        have u15 := blk_frozen0 hblk3 15
        go_wp2_with fail
        (first | go_end0 | refine bodyPost_ret (v := .tuple #[]) (by simp [results, Tryz.results128, go_sem]) rfl ?_)
        simp only
        exact ⟨trivial, (hD2.trans hd3).own hbx 15 _, put_ttl hblk3 n, (((hK0.did hd1).did hd2).did hd3).set 15 _⟩
      | false =>
        obtain ⟨⟨n, σ2⟩, hc⟩ : ∃ r, K.X.count (K.X.must σ.step [(⟨#[116, 105, 109, 101, 115, 116, 97, 109, 112]⟩ : ByteArray)]) = r := ⟨_, rfl⟩
        cases ha : K.X.sees σ2 (⟨#[97, 110, 100]⟩ : ByteArray) with
        | true =>
          obtain ⟨⟨n3, σ3⟩, hc3⟩ : ∃ r, K.X.count (K.X.must σ2.step [(⟨#[116, 116, 108]⟩ : ByteArray)]) = r := ⟨_, rfl⟩
          go_enter Tryz.func128, Tryz.ntmps128
          go_wp2_with fail
          refine hm0.mono ?_; rintro e w1 ⟨rfl, hd1⟩
          have hD1 : Did K w0 σ.step w1 := hD.trans hd1
          have hm1 := may_any hD1.1 (⟨#[116, 116, 108]⟩ : ByteArray)
          unfold Tx.may at hm1
          rw [ht] at hm1
          go_wp2_with fail
          refine hm1.mono ?_; rintro e w2 ⟨rfl, hd2⟩
          have hD2 : Did K w0 σ.step w2 := hD1.trans hd2
          go_wp2_with fail
          refine (must1 hD2.1 _).mono ?_; rintro e w3 ⟨rfl, hd3⟩
          have hD3 := hD2.trans hd3
          have hct := pcount_any hD3.1
          rw [hc] at hct
          go_wp2_with fail
          refine hct.mono ?_; rintro e w4 ⟨rfl, hd4⟩
          have hblk4 := hd4.blk (hd3.blk (hd2.blk (hd1.blk hblk hLx) hLx) hLx) hLx
          have t14 := (st18 hblk4).2.2.2.2.2.2.2.2.2.2.2.2.2.2.1
          have u14 := blk_frozen0 hblk4 14
          have hD5 := (hD3.trans hd4).own hbx 14 (.int .i64 n)
          have hblk5 := put_stamp hblk4 n
          have hK5 := ((((hK0.did hd1).did hd2).did hd3).did hd4).set 14 (.int .i64 n)
          have hm5 := may_any hD5.1 (⟨#[97, 110, 100]⟩ : ByteArray)
          unfold Tx.may at hm5
          rw [ha] at hm5
          go_wp2_with fail
          refine hm5.mono ?_; rintro e w6 ⟨rfl, hd6⟩
          have hD6 : Did K w0 σ2.step w6 := hD5.trans hd6
          go_wp2_with fail
          refine (must1 hD6.1 _).mono ?_; rintro e w7 ⟨rfl, hd7⟩
          have hD7 := hD6.trans hd7
          have hct7 := pcount_any hD7.1
          rw [hc3] at hct7
          go_wp2_with fail
          refine hct7.mono ?_; rintro e w8 ⟨rfl, hd8⟩
          have hblk8 := hd8.blk (hd7.blk (hd6.blk hblk5 hLx) hLx) hLx
          have t15 := (st18 hblk8).2.2.2.2.2.2.2.2.2.2.2.2.2.2.2.1
          have u15 := blk_frozen0 hblk8 15
          go_wp2_with fail
          (first | go_end0 | refine bodyPost_ret (v := .tuple #[]) (by simp [results, Tryz.results128, go_sem]) rfl ?_)
          simp only
          exact ⟨trivial, (hD7.trans hd8).own hbx 15 _, put_ttl hblk8 n3, (((hK5.did hd6).did hd7).did hd8).set 15 _⟩
        | false =>
          go_enter Tryz.func128, Tryz.ntmps128
          go_wp2_with fail
          refine hm0.mono ?_; rintro e w1 ⟨rfl, hd1⟩
          have hD1 : Did K w0 σ.step w1 := hD.trans hd1
          have hm1 := may_any hD1.1 (⟨#[116, 116, 108]⟩ : ByteArray)
          unfold Tx.may at hm1
          rw [ht] at hm1
          go_wp2_with fail
          refine hm1.mono ?_; rintro e w2 ⟨rfl, hd2⟩
          have hD2 : Did K w0 σ.step w2 := hD1.trans hd2
          go_wp2_with fail
          refine (must1 hD2.1 _).mono ?_; rintro e w3 ⟨rfl, hd3⟩
          have hD3 := hD2.trans hd3
          have hct := pcount_any hD3.1
          rw [hc] at hct
          go_wp2_with fail
          refine hct.mono ?_; rintro e w4 ⟨rfl, hd4⟩
          have hblk4 := hd4.blk (hd3.blk (hd2.blk (hd1.blk hblk hLx) hLx) hLx) hLx
          have t14 := (st18 hblk4).2.2.2.2.2.2.2.2.2.2.2.2.2.2.1
          have u14 := blk_frozen0 hblk4 14
          have hD5 := (hD3.trans hd4).own hbx 14 (.int .i64 n)
          have hblk5 := put_stamp hblk4 n
          have hK5 := ((((hK0.did hd1).did hd2).did hd3).did hd4).set 14 (.int .i64 n)
          have hm5 := may_any hD5.1 (⟨#[97, 110, 100]⟩ : ByteArray)
          unfold Tx.may at hm5
          rw [ha] at hm5
          go_wp2_with fail
          refine hm5.mono ?_; rintro e w6 ⟨rfl, hd6⟩
          go_wp2_with fail
          (first | go_end0 | refine bodyPost_ret (v := .tuple #[]) (by simp [results, Tryz.results128, go_sem]) rfl ?_)
          simp only
          exact ⟨trivial, hD5.trans hd6, hd6.blk hblk5 hLx, hK5.did hd6⟩
    | false =>
      obtain ⟨⟨n, σ2⟩, hc⟩ : ∃ r, K.X.count (K.X.must σ.step [(⟨#[116, 105, 109, 101, 115, 116, 97, 109, 112]⟩ : ByteArray)]) = r := ⟨_, rfl⟩
      go_enter Tryz.func128, Tryz.ntmps128
      go_wp2_with fail
      refine hm0.mono ?_; rintro e w1 ⟨rfl, hd1⟩
      have hD2 : Did K w0 σ.step w1 := hD.trans hd1
      go_wp2_with fail
      refine (must1 hD2.1 _).mono ?_; rintro e w3 ⟨rfl, hd3⟩
      have hD3 := hD2.trans hd3
      have hct := pcount_any hD3.1
      rw [hc] at hct
      go_wp2_with fail
      refine hct.mono ?_; rintro e w4 ⟨rfl, hd4⟩
      have hblk4 := hd4.blk (hd3.blk (hd1.blk hblk hLx) hLx) hLx
      have t14 := (st18 hblk4).2.2.2.2.2.2.2.2.2.2.2.2.2.2.1
      have u14 := blk_frozen0 hblk4 14
      go_wp2_with fail
      (first | go_end0 | refine bodyPost_ret (v := .tuple #[]) (by simp [results, Tryz.results128, go_sem]) rfl ?_)
      simp only
      exact ⟨trivial, (hD3.trans hd4).own hbx 14 _, put_stamp hblk4 n, (((hK0.did hd1).did hd3).did hd4).set 14 _⟩

end Go.Proofs.YtfbgdjcnlnfoaaaGreatDoor

namespace Go.Proofs.YtfbgdjcnlnfoaaaGreatDoor
open Go.RowKit
open Cle

theorem sz_set (w : World) (a : Addr) (v : Value) : (w.setCell a v).heap.size = w.heap.size := by simp [World.setCell]
theorem Tryz.sizeSt : (Tryz.prog.info? 31).map (·.size) = some 18 := by kernel_rfl
theorem Tryz.undSt : ∃ d, Tryz.prog.underlying 31 = some d ∧ d.isRow = true := ⟨_, Tryz.underlying31, rfl⟩
theorem build_k (k : Int)  (w : World) : (Instr.build 31 #[(0, .int .i64 k)]).run Tryz.prog w = .ok (.agg #[.int .i64 k, .string ⟨#[]⟩, .string ⟨#[]⟩, .string ⟨#[]⟩, .string ⟨#[]⟩, .int .i64 0, .string ⟨#[]⟩, .int .i64 0, .string ⟨#[]⟩, .int .i64 0, .slice none 0 0, .slice none 0 0, .slice none 0 0, .slice none 0 0, .int .i64 0, .int .i64 0, .int .i64 0, .slice none 0 0]) w := by kernel_rfl
theorem build_kn (k : Int) (x : ByteArray) (w : World) : (Instr.build 31 #[(0, .int .i64 k), (1, .string x)]).run Tryz.prog w = .ok (.agg #[.int .i64 k, .string x, .string ⟨#[]⟩, .string ⟨#[]⟩, .string ⟨#[]⟩, .int .i64 0, .string ⟨#[]⟩, .int .i64 0, .string ⟨#[]⟩, .int .i64 0, .slice none 0 0, .slice none 0 0, .slice none 0 0, .slice none 0 0, .int .i64 0, .int .i64 0, .int .i64 0, .slice none 0 0]) w := by kernel_rfl
theorem build_ko (k : Int) (x : ByteArray) (w : World) : (Instr.build 31 #[(0, .int .i64 k), (2, .string x)]).run Tryz.prog w = .ok (.agg #[.int .i64 k, .string ⟨#[]⟩, .string x, .string ⟨#[]⟩, .string ⟨#[]⟩, .int .i64 0, .string ⟨#[]⟩, .int .i64 0, .string ⟨#[]⟩, .int .i64 0, .slice none 0 0, .slice none 0 0, .slice none 0 0, .slice none 0 0, .int .i64 0, .int .i64 0, .int .i64 0, .slice none 0 0]) w := by kernel_rfl
theorem build_kc (k : Int) (n c : Nat) (a : Option Addr) (w : World) : (Instr.build 31 #[(0, .int .i64 k), (5, .slice a n c)]).run Tryz.prog w = .ok (.agg #[.int .i64 k, .string ⟨#[]⟩, .string ⟨#[]⟩, .string ⟨#[]⟩, .string ⟨#[]⟩, .int .i64 0, .string ⟨#[]⟩, .int .i64 0, .string ⟨#[]⟩, .int .i64 0, .slice none 0 0, .slice a n c, .slice none 0 0, .slice none 0 0, .int .i64 0, .int .i64 0, .int .i64 0, .slice none 0 0]) w := by kernel_rfl
theorem st_store (w : World) (V : Array Value) (hV : V.size = 18) (h1' : V.toList.all (·.oneCell') = true) :
    (Instr.storeAt 31 (.pointer (some ⟨w.heap.size, 0, none⟩)) (.agg V)).run Tryz.prog (w.alloc (.cells #[.int .i64 0, .string ⟨#[]⟩, .string ⟨#[]⟩, .string ⟨#[]⟩, .string ⟨#[]⟩, .int .i64 0, .string ⟨#[]⟩, .int .i64 0, .string ⟨#[]⟩, .int .i64 0, .slice none 0 0, .slice none 0 0, .slice none 0 0, .slice none 0 0, .int .i64 0, .int .i64 0, .int .i64 0, .slice none 0 0] 31)) = .ok () (w.alloc (.cells V 31)) ∧
    (storeCells ⟨w.heap.size, 0, none⟩ V.toList 0).run Tryz.prog (w.alloc (.cells #[.int .i64 0, .string ⟨#[]⟩, .string ⟨#[]⟩, .string ⟨#[]⟩, .string ⟨#[]⟩, .int .i64 0, .string ⟨#[]⟩, .int .i64 0, .string ⟨#[]⟩, .int .i64 0, .slice none 0 0, .slice none 0 0, .slice none 0 0, .slice none 0 0, .int .i64 0, .int .i64 0, .int .i64 0, .slice none 0 0] 31)) = .ok () (w.alloc (.cells V 31)) :=
  have h1 : V.all (·.oneCell') = true := by rw [← Array.all_toList]; exact h1'
  ⟨run_storeAt_new w _ _ V (by rw [hV]; exact Tryz.sizeSt) (by rw [hV]; rfl) h1, run_storeCells_new w _ _ V (by rw [hV]; exact Tryz.sizeSt) (by rw [hV]; rfl) h1⟩
theorem wpl_st {ops : Array Oper} {rest : List Oper} {op : Oper} {a : Act} {w : World} {Q : Exit → Act → World → Prop} {b : Nat} {V : Array Value} {T : TypeId} (hgd : op.guard = none) (x : Operand) (ho : op.op = .load 31 x)
    (hx : a.eval x = .pointer (some ⟨b, 0, none⟩)) (hV : V.size = 18) (hb : w.heap[b]? = some (.cells V T (0, 0))) (h : wpList Tryz.prog ops Q rest (a.put op.dst (.agg V)) w) : wpList Tryz.prog ops Q (op :: rest) a w := by
  obtain ⟨d, hu, hd⟩ := Tryz.undSt
  refine wpList_load_mid hgd 31 x ho b 0 hx V.toList d (fun j v hv => ?_) hu hd (by rw [show V.toList.length = 18 by simpa using hV]; exact Tryz.sizeSt) (by simpa using h)
  rw [Nat.zero_add, blk_cell hb]; simpa using hv
theorem wpl_sto {ops : Array Oper} {rest : List Oper} {op : Oper} {a : Act} {w : World} {Q : Exit → Act → World → Prop} {V : Array Value} (hgd : op.guard = none) (x y : Operand) (ho : op.op = .store 31 x y)
    (hx : a.eval x = .pointer (some ⟨w.heap.size, 0, none⟩)) (hy : a.eval y = .agg V) (hV : V.size = 18) (h1' : V.toList.all (·.oneCell') = true) (h : wpList Tryz.prog ops Q rest (a.put op.dst undef) (w.alloc (.cells V 31))) :
    wpList Tryz.prog ops Q (op :: rest) a (w.alloc (.cells #[.int .i64 0, .string ⟨#[]⟩, .string ⟨#[]⟩, .string ⟨#[]⟩, .string ⟨#[]⟩, .int .i64 0, .string ⟨#[]⟩, .int .i64 0, .string ⟨#[]⟩, .int .i64 0, .slice none 0 0, .slice none 0 0, .slice none 0 0, .slice none 0 0, .int .i64 0, .int .i64 0, .int .i64 0, .slice none 0 0] 31)) := by
  refine wpList_plain hgd fun K hK => ?_
  unfold Oper.wp execOp
  have := (st_store w V hV h1').1
  simp only [ho, hx, hy, Sem.run_bind, this, Result.andThen_ok, Sem.run_pure]
  exact hK _ _ h
theorem build_pl (v0 v1 v2 v3 v4 v5 v6 v7 v8 v9 v10 v11 v12 v13 v14 v15 v16 v17 : Value) (w : World) : (Instr.build 124 #[(0, .agg #[v0, v1, v2, v3, v4, v5, v6, v7, v8, v9, v10, v11, v12, v13, v14, v15, v16, v17])]).run Tryz.prog w = .ok (.agg #[v0, v1, v2, v3, v4, v5, v6, v7, v8, v9, v10, v11, v12, v13, v14, v15, v16, v17]) w := by kernel_rfl
theorem build_ch (v0 v1 v2 v3 v4 v5 v6 v7 v8 v9 v10 v11 v12 v13 v14 v15 v16 v17 : Value) (w : World) : (Instr.build 156 #[(0, .agg #[v0, v1, v2, v3, v4, v5, v6, v7, v8, v9, v10, v11, v12, v13, v14, v15, v16, v17])]).run Tryz.prog w = .ok (.agg #[v0, v1, v2, v3, v4, v5, v6, v7, v8, v9, v10, v11, v12, v13, v14, v15, v16, v17]) w := by kernel_rfl
theorem mki_pl (v0 v1 v2 v3 v4 v5 v6 v7 v8 v9 v10 v11 v12 v13 v14 v15 v16 v17 : Value) (w : World) : (Instr.makeInterface 124 (.agg #[v0, v1, v2, v3, v4, v5, v6, v7, v8, v9, v10, v11, v12, v13, v14, v15, v16, v17])).run Tryz.prog w = .ok (.iface 124 (.agg #[v0, v1, v2, v3, v4, v5, v6, v7, v8, v9, v10, v11, v12, v13, v14, v15, v16, v17])) w := by kernel_rfl
theorem mki_ch (v0 v1 v2 v3 v4 v5 v6 v7 v8 v9 v10 v11 v12 v13 v14 v15 v16 v17 : Value) (w : World) : (Instr.makeInterface 156 (.agg #[v0, v1, v2, v3, v4, v5, v6, v7, v8, v9, v10, v11, v12, v13, v14, v15, v16, v17])).run Tryz.prog w = .ok (.iface 156 (.agg #[v0, v1, v2, v3, v4, v5, v6, v7, v8, v9, v10, v11, v12, v13, v14, v15, v16, v17])) w := by kernel_rfl
end Go.Proofs.YtfbgdjcnlnfoaaaGreatDoor

namespace Go.Proofs.YtfbgdjcnlnfoaaaGreatDoor
open Go.RowKit
open Cle

theorem using_sl (X : Tx) (σ : Ps) (ttl : Bool) (x y : Sx) (σ' : Ps) (h : X.using_ σ ttl x = (y, σ')) : ∃ a b, y = { x with stamp := a, ttl := b } := by
  unfold Tx.using_ at h
  simp only at h
  split at h
  · split at h
    · cases h; exact ⟨x.stamp, _, rfl⟩
    · split at h
      · cases h; exact ⟨_, _, rfl⟩
      · cases h; exact ⟨_, x.ttl, rfl⟩
  · cases h; exact ⟨x.stamp, x.ttl, rfl⟩
theorem rows_u {w : World} {base : Nat} {x y : Sx} {tc c s wv : Value} {q : List Pr} (hu : Hid (∃ a b, y = { x with stamp := a, ttl := b })) (h1 : w.ownsRow base 23 2 tc x.tcols.length (flatC x.tcols)) (h2 : w.ownsRow base 9 1 c x.cols.length (x.cols.map Value.string)) (h3 : w.ownsRow base 61 4 s x.sets.length (flatR x.sets)) (h4 : w.ownsRow base 61 4 wv q.length (flatR q)) : StRows w base { y with wher := q } tc c s wv := by
  obtain ⟨a, b, rfl⟩ := hu.out
  exact ⟨h1, h2, h3, h4⟩

set_option maxRecDepth 100000 in
set_option maxHeartbeats 4000000 in
theorem index_any {K : PK} {w : World} {σ : Ps} (h : PQ K w σ) :
    Calls Tryz.prog 89 #[.pointer (some ⟨K.b, 0, none⟩)] w (GaveSt K w 124 (K.X.index σ).1 (K.X.index σ).2) := by
  have hle := h.le
  have hD0 := Did.refl h
  obtain ⟨σ1, hq1⟩ : ∃ r, K.X.must σ [(⟨#[105, 110, 100, 101, 120]⟩ : ByteArray)] = r := ⟨_, rfl⟩
  obtain ⟨⟨x, σ2⟩, hq2⟩ : ∃ r, K.X.name σ1 = r := ⟨_, rfl⟩
  obtain ⟨σ3, hq3⟩ : ∃ r, K.X.must σ2 [(⟨#[111, 110]⟩ : ByteArray)] = r := ⟨_, rfl⟩
  obtain ⟨⟨o, σ4⟩, hq4⟩ : ∃ r, K.X.name σ3 = r := ⟨_, rfl⟩
  obtain ⟨σ5, hq5⟩ : ∃ r, K.X.must σ4 [(⟨#[40]⟩ : ByteArray)] = r := ⟨_, rfl⟩
  obtain ⟨⟨n, σ6⟩, hq6⟩ : ∃ r, K.X.name σ5 = r := ⟨_, rfl⟩
  obtain ⟨σ7, hq7⟩ : ∃ r, K.X.must σ6 [(⟨#[41]⟩ : ByteArray)] = r := ⟨_, rfl⟩
  have HE : Hid (K.X.index σ = ({ Sx.zero with kind := 3, name := x, of_ := o, on := n }, σ7)) := by show _ = _; unfold Tx.index; simp only [hq1, hq2, hq3, hq4, hq5, hq6, hq7]
  go_enter Tryz.func89, Tryz.ntmps89
  have hm1 := must1 hD0.1 (⟨#[105, 110, 100, 101, 120]⟩ : ByteArray)
  rw [hq1] at hm1
  try simp only [sz_alloc, sz_set] at hm1
  go_wp2_with fail
  refine hm1.mono ?_; rintro e w1 ⟨rfl, hd1⟩
  have hD1 := hD0.trans hd1
  have hm2 := name_any hD1.1
  rw [hq2] at hm2
  try simp only at hm2
  go_wp2_with fail
  refine hm2.mono ?_; rintro e w2 ⟨rfl, hd2⟩
  have hD2 := hD1.trans hd2
  have hB3 := build_kn 3 x
  have hLx : K.L ≤ w2.heap.size := Nat.le_trans hle hD2.size
  have hbx : w.heap.size ≤ w2.heap.size := hD2.size
  have hblk3 : (w2.alloc (.cells (stC { Sx.zero with kind := 3, name := x } vnil vnil vnil vnil vnil) 31)).heap[w2.heap.size]? = some (.cells (stC { Sx.zero with kind := 3, name := x } vnil vnil vnil vnil vnil) 31 (0, 0)) := blk_new w2 _
  have hD3 := hD2.alloc (.cells (stC { Sx.zero with kind := 3, name := x } vnil vnil vnil vnil vnil) 31)
  have hm4 := must1 hD3.1 (⟨#[111, 110]⟩ : ByteArray)
  rw [hq3] at hm4
  try simp only [sz_alloc] at hm4
  go_wp2_with (refine wpl_sto rfl _ _ rfl rfl rfl rfl rfl ?_)
  refine hm4.mono ?_; rintro e w4 ⟨rfl, hd4⟩
  have hD4 := hD3.trans hd4
  have hblk4 := hd4.blk hblk3 hLx
  have hm5 := name_any hD4.1
  rw [hq4] at hm5
  try simp only at hm5
  go_wp2_with fail
  refine hm5.mono ?_; rintro e w5 ⟨rfl, hd5⟩
  have hD5 := hD4.trans hd5
  have hblk5 := hd5.blk hblk4 hLx
  have tt5 := (st18 hblk5).2.2.1
  have uu5 := blk_frozen0 hblk5 2
  have hD6 := hD5.own hbx 2 (.string o)
  have hblk6 := put_of hblk5 o
  have hm7 := must1 hD6.1 (⟨#[40]⟩ : ByteArray)
  rw [hq5] at hm7
  try simp only [sz_set] at hm7
  go_wp2_with fail
  refine hm7.mono ?_; rintro e w7 ⟨rfl, hd7⟩
  have hD7 := hD6.trans hd7
  have hblk7 := hd7.blk hblk6 hLx
  have hm8 := name_any hD7.1
  rw [hq6] at hm8
  try simp only at hm8
  go_wp2_with fail
  refine hm8.mono ?_; rintro e w8 ⟨rfl, hd8⟩
  have hD8 := hD7.trans hd8
  have hblk8 := hd8.blk hblk7 hLx
  have tt8 := (st18 hblk8).2.2.2.1
  have uu8 := blk_frozen0 hblk8 3
  have hD9 := hD8.own hbx 3 (.string n)
  have hblk9 := put_on hblk8 n
  have hm10 := must1 hD9.1 (⟨#[41]⟩ : ByteArray)
  rw [hq7] at hm10
  try simp only [sz_set] at hm10
  go_wp2_with fail
  refine hm10.mono ?_; rintro e w10 ⟨rfl, hd10⟩
  have hD10 := hD9.trans hd10
  have hblk10 := hd10.blk hblk9 hLx
  have hBx := build_pl
  have hMx := mki_pl
  go_wp2_with (refine wpl_st rfl _ rfl rfl rfl hblk10 ?_)
  go_ret
  rw [HE.out]
  exact ⟨vnil, vnil, vnil, vnil, rfl, hD10, rows_zero _ _ _ rfl rfl rfl rfl⟩

set_option maxRecDepth 100000 in
set_option maxHeartbeats 4000000 in
theorem ask_any {K : PK} {w : World} {σ : Ps} (h : PQ K w σ) :
    Calls Tryz.prog 84 #[.pointer (some ⟨K.b, 0, none⟩)] w (GaveSt K w 124 (K.X.ask σ).1 (K.X.ask σ).2) := by
  have hle := h.le
  have hD0 := Did.refl h
  obtain ⟨⟨c, σ1⟩, hq1⟩ : ∃ r, K.X.some_ σ = r := ⟨_, rfl⟩
  obtain ⟨σ2, hq2⟩ : ∃ r, K.X.must σ1 [(⟨#[102, 114, 111, 109]⟩ : ByteArray)] = r := ⟨_, rfl⟩
  obtain ⟨⟨o, σ3⟩, hq3⟩ : ∃ r, K.X.name σ2 = r := ⟨_, rfl⟩
  obtain ⟨⟨q, σ4⟩, hq4⟩ : ∃ r, K.X.wher σ3 false = r := ⟨_, rfl⟩
  cases hsee : K.X.sees σ4 (⟨#[108, 105, 109, 105, 116]⟩ : ByteArray) with
  | true =>
    obtain ⟨⟨k, σ5⟩, hq5⟩ : ∃ r, K.X.count σ4.step = r := ⟨_, rfl⟩
    have HE : Hid (K.X.ask σ = ({ Sx.zero with kind := 8, cols := c, of_ := o, wher := q, limit := k }, σ5)) := by show _ = _; unfold Tx.ask; simp only [hq1, hq2, hq3, hq4, hq5, hsee, if_true]
    go_enter Tryz.func84, Tryz.ntmps84
    have hm1 := some_any hD0.1
    rw [hq1] at hm1
    try simp only at hm1
    go_wp2_with fail
    refine hm1.mono ?_; rintro e w1 ⟨ac, cc, rfl, hd1, hr1⟩
    have hD1 := hD0.trans hd1
    have hz1 := hD0.size
    try simp only [sz_alloc, sz_set] at hz1 hr1
    replace hr1 := ownsRow_mono hr1 hz1
    have hB2 := build_kc 8 c.length cc ac
    have hLx : K.L ≤ w1.heap.size := Nat.le_trans hle hD1.size
    have hbx : w.heap.size ≤ w1.heap.size := hD1.size
    have hblk2 : (w1.alloc (.cells (stC { Sx.zero with kind := 8, cols := c } vnil (.slice ac c.length cc) vnil vnil vnil) 31)).heap[w1.heap.size]? = some (.cells (stC { Sx.zero with kind := 8, cols := c } vnil (.slice ac c.length cc) vnil vnil vnil) 31 (0, 0)) := blk_new w1 _
    have hD2 := hD1.alloc (.cells (stC { Sx.zero with kind := 8, cols := c } vnil (.slice ac c.length cc) vnil vnil vnil) 31)
    have hr_c2 := hr1.alloc (.cells (stC { Sx.zero with kind := 8, cols := c } vnil (.slice ac c.length cc) vnil vnil vnil) 31)
    have hm3 := must1 hD2.1 (⟨#[102, 114, 111, 109]⟩ : ByteArray)
    rw [hq2] at hm3
    try simp only [sz_alloc] at hm3
    go_wp2_with (refine wpl_sto rfl _ _ rfl rfl rfl rfl rfl ?_)
    refine hm3.mono ?_; rintro e w3 ⟨rfl, hd3⟩
    have hD3 := hD2.trans hd3
    have hblk3 := hd3.blk hblk2 hLx
    have hr_c3 := hd3.row hr_c2 hle
    have hm4 := name_any hD3.1
    rw [hq3] at hm4
    try simp only at hm4
    go_wp2_with fail
    refine hm4.mono ?_; rintro e w4 ⟨rfl, hd4⟩
    have hD4 := hD3.trans hd4
    have hblk4 := hd4.blk hblk3 hLx
    have hr_c4 := hd4.row hr_c3 hle
    have tt4 := (st18 hblk4).2.2.1
    have uu4 := blk_frozen0 hblk4 2
    have hD5 := hD4.own hbx 2 (.string o)
    have hblk5 := put_of hblk4 o
    have hr_c5 := row_set hr_c4 hblk4 (by decide) 2 (.string o)
    have hm6 := where_any hD5.1 false
    rw [hq4] at hm6
    try simp only [sz_set] at hm6
    go_wp2_with fail
    refine hm6.mono ?_; rintro e w6 ⟨aq, cq, rfl, hd6, hr6⟩
    have hD6 := hD5.trans hd6
    have hblk6 := hd6.blk hblk5 hLx
    have hr_c6 := hd6.row hr_c5 hle
    have hz6 := hD5.size
    try simp only [sz_set] at hz6 hr6
    replace hr6 := ownsRow_mono hr6 hz6
    have tt6 := (st18 hblk6).2.2.2.2.2.2.2.2.2.2.2.2.2.1
    have uu6 := blk_frozen0 hblk6 13
    have hD7 := hD6.own hbx 13 (.slice aq q.length cq)
    have hblk7 := put_wher hblk6 (.slice aq q.length cq)
    have hr_c7 := row_set hr_c6 hblk6 (by decide) 13 (.slice aq q.length cq)
    have hr_q7 := row_set hr6 hblk6 (by decide) 13 (.slice aq q.length cq)
    have hm8 := may_any hD7.1 (⟨#[108, 105, 109, 105, 116]⟩ : ByteArray)
    unfold Tx.may at hm8
    rw [hsee, if_pos rfl] at hm8
    try simp only [sz_alloc, sz_set] at hm8
    go_wp2_with fail
    refine hm8.mono ?_; rintro e w8 ⟨rfl, hd8⟩
    have hD8 := hD7.trans hd8
    have hblk8 := hd8.blk hblk7 hLx
    have hr_c8 := hd8.row hr_c7 hle
    have hr_q8 := hd8.row hr_q7 hle
    have hm9 := pcount_any hD8.1
    rw [hq5] at hm9
    try simp only at hm9
    go_wp2_with fail
    refine hm9.mono ?_; rintro e w9 ⟨rfl, hd9⟩
    have hD9 := hD8.trans hd9
    have hblk9 := hd9.blk hblk8 hLx
    have hr_c9 := hd9.row hr_c8 hle
    have hr_q9 := hd9.row hr_q8 hle
    have tt9 := (st18 hblk9).2.2.2.2.2.2.2.2.2.2.2.2.2.2.2.2.1
    have uu9 := blk_frozen0 hblk9 16
    have hD10 := hD9.own hbx 16 (.int .i64 k)
    have hblk10 := put_limit hblk9 k
    have hr_c10 := row_set hr_c9 hblk9 (by decide) 16 (.int .i64 k)
    have hr_q10 := row_set hr_q9 hblk9 (by decide) 16 (.int .i64 k)
    have hBx := build_pl
    have hMx := mki_pl
    go_wp2_with (refine wpl_st rfl _ rfl rfl rfl hblk10 ?_)
    go_ret
    rw [HE.out]
    exact ⟨vnil, _, vnil, _, rfl, hD10, ⟨World.ownsRow_nil _ _ _ _, hr_c10, World.ownsRow_nil _ _ _ _, hr_q10⟩⟩
  | false =>
    have HE : Hid (K.X.ask σ = ({ Sx.zero with kind := 8, cols := c, of_ := o, wher := q }, σ4)) := by show _ = _; unfold Tx.ask; simp only [hq1, hq2, hq3, hq4, hsee, if_neg (show ¬ (false = true) by decide)]
    go_enter Tryz.func84, Tryz.ntmps84
    have hm1 := some_any hD0.1
    rw [hq1] at hm1
    try simp only at hm1
    go_wp2_with fail
    refine hm1.mono ?_; rintro e w1 ⟨ac, cc, rfl, hd1, hr1⟩
    have hD1 := hD0.trans hd1
    have hz1 := hD0.size
    try simp only [sz_alloc, sz_set] at hz1 hr1
    replace hr1 := ownsRow_mono hr1 hz1
    have hB2 := build_kc 8 c.length cc ac
    have hLx : K.L ≤ w1.heap.size := Nat.le_trans hle hD1.size
    have hbx : w.heap.size ≤ w1.heap.size := hD1.size
    have hblk2 : (w1.alloc (.cells (stC { Sx.zero with kind := 8, cols := c } vnil (.slice ac c.length cc) vnil vnil vnil) 31)).heap[w1.heap.size]? = some (.cells (stC { Sx.zero with kind := 8, cols := c } vnil (.slice ac c.length cc) vnil vnil vnil) 31 (0, 0)) := blk_new w1 _
    have hD2 := hD1.alloc (.cells (stC { Sx.zero with kind := 8, cols := c } vnil (.slice ac c.length cc) vnil vnil vnil) 31)
    have hr_c2 := hr1.alloc (.cells (stC { Sx.zero with kind := 8, cols := c } vnil (.slice ac c.length cc) vnil vnil vnil) 31)
    have hm3 := must1 hD2.1 (⟨#[102, 114, 111, 109]⟩ : ByteArray)
    rw [hq2] at hm3
    try simp only [sz_alloc] at hm3
    go_wp2_with (refine wpl_sto rfl _ _ rfl rfl rfl rfl rfl ?_)
    refine hm3.mono ?_; rintro e w3 ⟨rfl, hd3⟩
    have hD3 := hD2.trans hd3
    have hblk3 := hd3.blk hblk2 hLx
    have hr_c3 := hd3.row hr_c2 hle
    have hm4 := name_any hD3.1
    rw [hq3] at hm4
    try simp only at hm4
    go_wp2_with fail
    refine hm4.mono ?_; rintro e w4 ⟨rfl, hd4⟩
    have hD4 := hD3.trans hd4
    have hblk4 := hd4.blk hblk3 hLx
    have hr_c4 := hd4.row hr_c3 hle
    have tt4 := (st18 hblk4).2.2.1
    have uu4 := blk_frozen0 hblk4 2
    have hD5 := hD4.own hbx 2 (.string o)
    have hblk5 := put_of hblk4 o
    have hr_c5 := row_set hr_c4 hblk4 (by decide) 2 (.string o)
    have hm6 := where_any hD5.1 false
    rw [hq4] at hm6
    try simp only [sz_set] at hm6
    go_wp2_with fail
    refine hm6.mono ?_; rintro e w6 ⟨aq, cq, rfl, hd6, hr6⟩
    have hD6 := hD5.trans hd6
    have hblk6 := hd6.blk hblk5 hLx
    have hr_c6 := hd6.row hr_c5 hle
    have hz6 := hD5.size
    try simp only [sz_set] at hz6 hr6
    replace hr6 := ownsRow_mono hr6 hz6
    have tt6 := (st18 hblk6).2.2.2.2.2.2.2.2.2.2.2.2.2.1
    have uu6 := blk_frozen0 hblk6 13
    have hD7 := hD6.own hbx 13 (.slice aq q.length cq)
    have hblk7 := put_wher hblk6 (.slice aq q.length cq)
    have hr_c7 := row_set hr_c6 hblk6 (by decide) 13 (.slice aq q.length cq)
    have hr_q7 := row_set hr6 hblk6 (by decide) 13 (.slice aq q.length cq)
    have hm8 := may_any hD7.1 (⟨#[108, 105, 109, 105, 116]⟩ : ByteArray)
    unfold Tx.may at hm8
    rw [hsee, if_neg (by decide)] at hm8
    try simp only [sz_alloc, sz_set] at hm8
    go_wp2_with fail
    refine hm8.mono ?_; rintro e w8 ⟨rfl, hd8⟩
    have hD8 := hD7.trans hd8
    have hblk8 := hd8.blk hblk7 hLx
    have hr_c8 := hd8.row hr_c7 hle
    have hr_q8 := hd8.row hr_q7 hle
    have hBx := build_pl
    have hMx := mki_pl
    go_wp2_with (refine wpl_st rfl _ rfl rfl rfl hblk8 ?_)
    go_ret
    rw [HE.out]
    exact ⟨vnil, _, vnil, _, rfl, hD8, ⟨World.ownsRow_nil _ _ _ _, hr_c8, World.ownsRow_nil _ _ _ _, hr_q8⟩⟩

set_option maxRecDepth 100000 in
set_option maxHeartbeats 4000000 in
theorem remove_any {K : PK} {w : World} {σ : Ps} (h : PQ K w σ) :
    Calls Tryz.prog 83 #[.pointer (some ⟨K.b, 0, none⟩)] w (GaveSt K w 156 (K.X.remove σ).1 (K.X.remove σ).2) := by
  have hle := h.le
  have hD0 := Did.refl h
  cases hsee : K.X.sees σ (⟨#[102, 114, 111, 109]⟩ : ByteArray) with
  | true =>
    obtain ⟨σ1, hq1⟩ : ∃ r, K.X.must σ [(⟨#[102, 114, 111, 109]⟩ : ByteArray)] = r := ⟨_, rfl⟩
    obtain ⟨⟨o, σ2⟩, hq2⟩ : ∃ r, K.X.name σ1 = r := ⟨_, rfl⟩
    obtain ⟨⟨xu, σ3⟩, hq3⟩ : ∃ r, K.X.using_ σ2 false { Sx.zero with kind := 7, cols := ([] : List ByteArray), of_ := o } = r := ⟨_, rfl⟩
    obtain ⟨⟨q, σ4⟩, hq4⟩ : ∃ r, K.X.wher σ3 false = r := ⟨_, rfl⟩
    have HU := Lib.hid (using_sl K.X _ _ _ _ _ hq3)
    have HE : Hid (K.X.remove σ = ({ xu with wher := q }, σ4)) := by show _ = _; unfold Tx.remove; simp only [hq1, hq2, hq3, hq4, hsee, if_true]
    go_enter Tryz.func83, Tryz.ntmps83
    have hB1 := build_k 7
    have hLx : K.L ≤ w.heap.size := Nat.le_trans hle hD0.size
    have hbx : w.heap.size ≤ w.heap.size := hD0.size
    have hblk1 : (w.alloc (.cells (stC { Sx.zero with kind := 7 } vnil vnil vnil vnil vnil) 31)).heap[w.heap.size]? = some (.cells (stC { Sx.zero with kind := 7 } vnil vnil vnil vnil vnil) 31 (0, 0)) := blk_new w _
    have hD1 := hD0.alloc (.cells (stC { Sx.zero with kind := 7 } vnil vnil vnil vnil vnil) 31)
    have hm2 := sees_any hD1.1 (⟨#[102, 114, 111, 109]⟩ : ByteArray)
    rw [hsee] at hm2
    go_wp2_with (refine wpl_sto rfl _ _ rfl rfl rfl rfl rfl ?_)
    refine hm2.mono ?_; rintro e w2 ⟨rfl, hb2⟩
    have hd2 := (Did.refl hD1.1).below hb2
    have hD2 := hD1.trans hd2
    have hblk2 := hd2.blk hblk1 hLx
    have hm3 := must1 hD2.1 (⟨#[102, 114, 111, 109]⟩ : ByteArray)
    rw [hq1] at hm3
    try simp only [sz_alloc, sz_set] at hm3
    go_wp2_with fail
    refine hm3.mono ?_; rintro e w3 ⟨rfl, hd3⟩
    have hD3 := hD2.trans hd3
    have hblk3 := hd3.blk hblk2 hLx
    have hm4 := name_any hD3.1
    rw [hq2] at hm4
    try simp only at hm4
    go_wp2_with fail
    refine hm4.mono ?_; rintro e w4 ⟨rfl, hd4⟩
    have hD4 := hD3.trans hd4
    have hblk4 := hd4.blk hblk3 hLx
    have tt4 := (st18 hblk4).2.2.1
    have uu4 := blk_frozen0 hblk4 2
    have hD5 := hD4.own hbx 2 (.string o)
    have hblk5 := put_of hblk4 o
    have hm6 := using_any hD5 hbx (x := { Sx.zero with kind := 7, cols := ([] : List ByteArray), of_ := o }) hblk5 false
    rw [hq3] at hm6
    go_wp2_with fail
    refine hm6.mono ?_; rintro e w6 ⟨rfl, hD6, hblk6, hk6⟩
    have hm7 := where_any hD6.1 false
    rw [hq4] at hm7
    try simp only at hm7
    go_wp2_with fail
    refine hm7.mono ?_; rintro e w7 ⟨aq, cq, rfl, hd7, hr7⟩
    have hD7 := hD6.trans hd7
    have hblk7 := hd7.blk hblk6 hLx
    have hz7 := hD6.size
    try simp only [sz_alloc, sz_set] at hz7 hr7
    replace hr7 := ownsRow_mono hr7 hz7
    have tt7 := (st18 hblk7).2.2.2.2.2.2.2.2.2.2.2.2.2.1
    have uu7 := blk_frozen0 hblk7 13
    have hD8 := hD7.own hbx 13 (.slice aq q.length cq)
    have hblk8 := put_wher hblk7 (.slice aq q.length cq)
    have hr_q8 := row_set hr7 hblk7 (by decide) 13 (.slice aq q.length cq)
    have hBx := build_ch
    have hMx := mki_ch
    go_wp2_with (refine wpl_st rfl _ rfl rfl rfl hblk8 ?_)
    go_ret
    rw [HE.out]
    exact ⟨_, _, _, _, rfl, hD8, rows_u (x := { Sx.zero with kind := 7, cols := ([] : List ByteArray), of_ := o }) HU (World.ownsRow_nil _ _ _ _) (World.ownsRow_nil _ _ _ _) (World.ownsRow_nil _ _ _ _) hr_q8⟩
  | false =>
    obtain ⟨⟨c, σ1⟩, hq1⟩ : ∃ r, K.X.columns σ 8 = r := ⟨_, rfl⟩
    obtain ⟨σ2, hq2⟩ : ∃ r, K.X.must σ1 [(⟨#[102, 114, 111, 109]⟩ : ByteArray)] = r := ⟨_, rfl⟩
    obtain ⟨⟨o, σ3⟩, hq3⟩ : ∃ r, K.X.name σ2 = r := ⟨_, rfl⟩
    obtain ⟨⟨xu, σ4⟩, hq4⟩ : ∃ r, K.X.using_ σ3 false { Sx.zero with kind := 7, cols := c, of_ := o } = r := ⟨_, rfl⟩
    obtain ⟨⟨q, σ5⟩, hq5⟩ : ∃ r, K.X.wher σ4 false = r := ⟨_, rfl⟩
    have HU := Lib.hid (using_sl K.X _ _ _ _ _ hq4)
    have HE : Hid (K.X.remove σ = ({ xu with wher := q }, σ5)) := by show _ = _; unfold Tx.remove; simp only [hq1, hq2, hq3, hq4, hq5, hsee, if_neg (show ¬ (false = true) by decide)]
    go_enter Tryz.func83, Tryz.ntmps83
    have hB1 := build_k 7
    have hLx : K.L ≤ w.heap.size := Nat.le_trans hle hD0.size
    have hbx : w.heap.size ≤ w.heap.size := hD0.size
    have hblk1 : (w.alloc (.cells (stC { Sx.zero with kind := 7 } vnil vnil vnil vnil vnil) 31)).heap[w.heap.size]? = some (.cells (stC { Sx.zero with kind := 7 } vnil vnil vnil vnil vnil) 31 (0, 0)) := blk_new w _
    have hD1 := hD0.alloc (.cells (stC { Sx.zero with kind := 7 } vnil vnil vnil vnil vnil) 31)
    have hm2 := sees_any hD1.1 (⟨#[102, 114, 111, 109]⟩ : ByteArray)
    rw [hsee] at hm2
    go_wp2_with (refine wpl_sto rfl _ _ rfl rfl rfl rfl rfl ?_)
    refine hm2.mono ?_; rintro e w2 ⟨rfl, hb2⟩
    have hd2 := (Did.refl hD1.1).below hb2
    have hD2 := hD1.trans hd2
    have hblk2 := hd2.blk hblk1 hLx
    have hm3 := columns_any hD2.1 8 (by omega)
    rw [hq1] at hm3
    try simp only at hm3
    go_wp2_with fail
    refine hm3.mono ?_; rintro e w3 ⟨ac, cc, rfl, hd3, hr3⟩
    have hD3 := hD2.trans hd3
    have hblk3 := hd3.blk hblk2 hLx
    have hz3 := hD2.size
    try simp only [sz_alloc, sz_set] at hz3 hr3
    replace hr3 := ownsRow_mono hr3 hz3
    have tt3 := (st18 hblk3).2.2.2.2.2.2.2.2.2.2.2.1
    have uu3 := blk_frozen0 hblk3 11
    have hD4 := hD3.own hbx 11 (.slice ac c.length cc)
    have hblk4 := put_cols hblk3 (.slice ac c.length cc)
    have hr_c4 := row_set hr3 hblk3 (by decide) 11 (.slice ac c.length cc)
    have hm5 := must1 hD4.1 (⟨#[102, 114, 111, 109]⟩ : ByteArray)
    rw [hq2] at hm5
    try simp only [sz_set] at hm5
    go_wp2_with fail
    refine hm5.mono ?_; rintro e w5 ⟨rfl, hd5⟩
    have hD5 := hD4.trans hd5
    have hblk5 := hd5.blk hblk4 hLx
    have hr_c5 := hd5.row hr_c4 hle
    have hm6 := name_any hD5.1
    rw [hq3] at hm6
    try simp only at hm6
    go_wp2_with fail
    refine hm6.mono ?_; rintro e w6 ⟨rfl, hd6⟩
    have hD6 := hD5.trans hd6
    have hblk6 := hd6.blk hblk5 hLx
    have hr_c6 := hd6.row hr_c5 hle
    have tt6 := (st18 hblk6).2.2.1
    have uu6 := blk_frozen0 hblk6 2
    have hD7 := hD6.own hbx 2 (.string o)
    have hblk7 := put_of hblk6 o
    have hr_c7 := row_set hr_c6 hblk6 (by decide) 2 (.string o)
    have hm8 := using_any hD7 hbx (x := { Sx.zero with kind := 7, cols := c, of_ := o }) hblk7 false
    rw [hq4] at hm8
    go_wp2_with fail
    refine hm8.mono ?_; rintro e w8 ⟨rfl, hD8, hblk8, hk8⟩
    have hr_c8 := hk8.row hr_c7 hle hblk7 (by decide)
    have hm9 := where_any hD8.1 false
    rw [hq5] at hm9
    try simp only at hm9
    go_wp2_with fail
    refine hm9.mono ?_; rintro e w9 ⟨aq, cq, rfl, hd9, hr9⟩
    have hD9 := hD8.trans hd9
    have hblk9 := hd9.blk hblk8 hLx
    have hr_c9 := hd9.row hr_c8 hle
    have hz9 := hD8.size
    try simp only [sz_alloc, sz_set] at hz9 hr9
    replace hr9 := ownsRow_mono hr9 hz9
    have tt9 := (st18 hblk9).2.2.2.2.2.2.2.2.2.2.2.2.2.1
    have uu9 := blk_frozen0 hblk9 13
    have hD10 := hD9.own hbx 13 (.slice aq q.length cq)
    have hblk10 := put_wher hblk9 (.slice aq q.length cq)
    have hr_c10 := row_set hr_c9 hblk9 (by decide) 13 (.slice aq q.length cq)
    have hr_q10 := row_set hr9 hblk9 (by decide) 13 (.slice aq q.length cq)
    have hBx := build_ch
    have hMx := mki_ch
    go_wp2_with (refine wpl_st rfl _ rfl rfl rfl hblk10 ?_)
    go_ret
    rw [HE.out]
    exact ⟨_, _, _, _, rfl, hD10, rows_u (x := { Sx.zero with kind := 7, cols := c, of_ := o }) HU (World.ownsRow_nil _ _ _ _) hr_c10 (World.ownsRow_nil _ _ _ _) hr_q10⟩

end Go.Proofs.YtfbgdjcnlnfoaaaGreatDoor

namespace Go.Proofs.YtfbgdjcnlnfoaaaGreatDoor
open Go.RowKit
open Cle

theorem Tryz.eltT : Elt Tryz.prog 153 59 (.agg #[.int .i64 0, .string ⟨#[]⟩, .int .i64 0]) 3 32 := elt_of Tryz.underlying153 (by kernel_rfl) rfl (by decide)
def tmCells (t : Tm) : List Value := [.int .i64 t.ty, .string t.s, .int .i64 t.n]
def flatV (l : List Tm) : List Value := l.flatMap tmCells
theorem value_i (X : Tx) (σ : Ps) : σ.i ≤ (X.value σ).2.i := by
  unfold Tx.value
  split
  · show σ.i ≤ σ.i + 1; omega
  · split
    · show σ.i ≤ σ.i + 1; omega
    · show σ.i ≤ (σ.wrong _).i; rw [wrong_i]; exact Nat.le_refl _
theorem rows_apart {w : World} {b1 b2 : Nat} {e1 e2 : TypeId} {s1 s2 n1 n2 : Nat} {v u : Value} {xs ys : List Value} (hv : w.ownsRow b1 e1 s1 v n1 xs) (hu : w.ownsRow b2 e2 s2 u n2 ys) (hne : e1 ≠ e2) : Apart v u := by
  intro g h1 h2
  rcases hv.2 with ⟨rfl, _⟩ | ⟨g1, c1, cur1, rfl, _, k1, _⟩
  · cases h1
  · rcases hu.2 with ⟨rfl, _⟩ | ⟨g2, c2, cur2, rfl, _, k2, _⟩
    · cases h2
    · cases h1; cases h2
      rw [k1] at k2
      injection k2 with k2
      injection k2 with _ k2 _
      exact hne k2
theorem row_nblk {w : World} {b1 bx : Nat} {e1 T : TypeId} {s1 n1 : Nat} {v : Value} {xs : List Value} {C : Array Value} {fr : Nat × Nat} (hv : w.ownsRow b1 e1 s1 v n1 xs) (hx : w.heap[bx]? = some (.cells C T fr)) (hne : e1 ≠ T) : v.ownBlock ≠ some bx := by
  intro h1
  rcases hv.2 with ⟨rfl, _⟩ | ⟨g1, c1, cur1, rfl, _, k1, _⟩
  · cases h1
  · cases h1
    rw [hx] at k1
    injection k1 with k1
    injection k1 with _ k1 _
    exact hne k1.symm
theorem row_cap {w : World} {b1 : Nat} {e1 : TypeId} {s1 n : Nat} {a : Option Addr} {c : Nat} {xs : List Value} (hv : w.ownsRow b1 e1 s1 (.slice a n c) n xs) : n ≤ c := by
  rcases hv.2 with ⟨h, h0⟩ | ⟨g1, c1, cur1, h, _, k1, h2, _⟩
  · omega
  · cases h; exact h2
theorem flatV_at : ∀ (l : List Tm) (k j : Nat) (h : k < l.length) (_ : j < 3), (flatV l)[k * 3 + j]? = (tmCells l[k])[j]?
  | p :: l, 0, j, _, hj => by
    simp only [flatV, List.flatMap_cons, Nat.zero_mul, Nat.zero_add, List.getElem_cons_zero]
    rw [List.getElem?_append_left (by simp [tmCells]; omega)]
  | p :: l, k + 1, j, h, hj => by
    have := flatV_at l k j (by simp at h; omega) hj
    simp only [flatV, List.flatMap_cons, List.getElem_cons_succ] at this ⊢
    rw [List.getElem?_append_right (by simp [tmCells]; omega)]
    have e : (k + 1) * 3 + j - (tmCells p).length = k * 3 + j := by simp [tmCells]; omega
    rw [e]; exact this
theorem zip_snoc (c : List ByteArray) (l : List Tm) (j : Nat) (h1 : j < c.length) (h2 : j < l.length) :
    flatR (List.zipWith Pr.mk (c.take (j + 1)) (l.take (j + 1))) = flatR (List.zipWith Pr.mk (c.take j) (l.take j)) ++ [.string c[j], .int .i64 l[j].ty, .string l[j].s, .int .i64 l[j].n] := by
  rw [List.take_succ_eq_append_getElem h1, List.take_succ_eq_append_getElem h2, List.zipWith_append (by rw [List.length_take, List.length_take]; omega)]
  simp [flatR, prCells]
theorem zip_all (c : List ByteArray) (l : List Tm) (m : Nat) (h : min c.length l.length = m) : List.zipWith Pr.mk (c.take m) (l.take m) = List.zipWith Pr.mk c l := by
  rw [← List.take_zipWith]
  exact List.take_of_length_le (by rw [List.length_zipWith]; omega)
theorem zip_len (c : List ByteArray) (l : List Tm) : (List.zipWith Pr.mk c l).length = min c.length l.length := by rw [List.length_zipWith]
theorem columnsF_len (X : Tx) (most : Nat) : ∀ n σ l, l.length ≤ (X.columnsF most n σ l).1.length ∧ (X.columnsF most n σ l).1.length ≤ l.length + n
  | 0, σ, l => ⟨Nat.le_refl _, Nat.le_refl _⟩
  | n + 1, σ, l => by
    rw [Tx.columnsF]
    split
    · have h := columnsF_len X most n (X.column σ.step l most).2 (X.column σ.step l most).1
      have := column_len X σ.step l most
      simp only
      omega
    · simp only; omega
theorem columns_len (X : Tx) (σ : Ps) (most : Nat) : 1 ≤ (X.columns σ most).1.length ∧ (X.columns σ most).1.length ≤ X.T.length + 1 := by
  have h := columnsF_len X most X.T.length (X.column σ [] most).2 (X.column σ [] most).1
  have := column_len X σ [] most
  unfold Tx.columns
  simp only [List.length_nil] at *
  omega
theorem valuesF_len (X : Tx) : ∀ n σ l, l.length ≤ (X.valuesF n σ l).1.length
  | 0, σ, l => Nat.le_refl _
  | n + 1, σ, l => by
    rw [Tx.valuesF]
    split
    · have h := valuesF_len X n (X.value σ.step).2 (l ++ [(X.value σ.step).1])
      rw [List.length_append] at h
      simp only
      have : ([(X.value σ.step).1] : List Tm).length = 1 := rfl
      omega
    · simp only; omega
theorem step_app {P : Program} {t e : TypeId} {z : Value} {size bytes : Nat} (E : Elt P t e z size bytes) {w : World} {ops : Array Oper} {o : Oper} {a : Act} {K : Act → World → Prop} {Q : Exit → Act → World → Prop} {G : Prop} (hgd : o.guard = none) (s x : Operand)
    (ho : o.op = .call { callee := .builtin .append, args := #[s, x], argTypes := #[t, t] })
    (base : Nat) (v : Value) (n : Nat) (xs : List Value) (hs : a.eval s = v) (hown : w.ownsRow base e size v n xs)
    (ad : Addr) (c : Nat) (news : List Value) (hx : a.eval x = .slice (some ad) 1 c) (hl : news.length = size) (hnews : ∀ j u, news[j]? = some u → w.cell? (ad.add j) = some u) (h1 : ∀ u ∈ news, u.oneCell' = true)
    (hn : (n + 1) * bytes ≤ 140737488355328 ∧ n < 140737488355328) (hbase : base ≤ w.heap.size)
    (h : ∀ g cap w', w'.ownsRow base e size (.slice (some ⟨g, 0, none⟩) (n + 1) cap) (n + 1) (xs ++ news) → w.grownBy w' v.ownBlock → (v.ownBlock = some g ∨ g = w.heap.size) → g < w'.heap.size → K (a.put o.dst (.slice (some ⟨g, 0, none⟩) (n + 1) cap)) w') :
    if Region.wanted o (yielded ops a.tmps) = true then Oper.wp P o a w K Q else G := by
  obtain ⟨i, hi, hz, hsize, hby⟩ := E.info
  exact step_append_lies w hgd s x t ho base e i z size bytes E.und hi hz hsize hby E.zs E.pos v n xs hs hown ad 1 c news hx (by rw [Nat.one_mul]; exact hl) hnews h1 (by omega) (by have := hn.2; unfold maxLen; omega) hn.1 hbase _ rfl h

set_option maxRecDepth 100000 in
set_option maxHeartbeats 4000000 in
theorem insert_any {K : PK} {w : World} {σ : Ps} (h : PQ K w σ) :
    Calls Tryz.prog 81 #[.pointer (some ⟨K.b, 0, none⟩)] w (GaveSt K w 156 (K.X.insert σ).1 (K.X.insert σ).2) := by
  have hle := h.le
  have hD0 := Did.refl h
  obtain ⟨σ1, hq1⟩ : ∃ r, K.X.must σ [(⟨#[105, 110, 116, 111]⟩ : ByteArray)] = r := ⟨_, rfl⟩
  obtain ⟨⟨o, σ2⟩, hq2⟩ : ∃ r, K.X.name σ1 = r := ⟨_, rfl⟩
  obtain ⟨σ3, hq3⟩ : ∃ r, K.X.must σ2 [(⟨#[40]⟩ : ByteArray)] = r := ⟨_, rfl⟩
  obtain ⟨⟨c, σ4⟩, hq4⟩ : ∃ r, K.X.columns σ3 10 = r := ⟨_, rfl⟩
  obtain ⟨σ5, hq5⟩ : ∃ r, K.X.must σ4 [(⟨#[41]⟩ : ByteArray), (⟨#[118, 97, 108, 117, 101, 115]⟩ : ByteArray), (⟨#[40]⟩ : ByteArray)] = r := ⟨_, rfl⟩
  obtain ⟨⟨v0, σ6⟩, hq6⟩ : ∃ r, K.X.value σ5 = r := ⟨_, rfl⟩
  obtain ⟨⟨vs, σv⟩, hR⟩ : ∃ r, K.X.valuesF K.X.T.length σ6 [v0] = r := ⟨_, rfl⟩
  have hcl : 0 < c.length ∧ c.length ≤ K.X.T.length + 1 := by have h := columns_len K.X σ3 10; rw [hq4] at h; exact h
  have HT := Lib.hid K.hT
  go_enter Tryz.func81, Tryz.ntmps81
  have hm1 := must1 hD0.1 (⟨#[105, 110, 116, 111]⟩ : ByteArray)
  rw [hq1] at hm1
  try simp only [sz_alloc, sz_set] at hm1
  go_wp2_with fail
  refine hm1.mono ?_; rintro e w1 ⟨rfl, hd1⟩
  have hD1 := hD0.trans hd1
  have hm2 := name_any hD1.1
  rw [hq2] at hm2
  try simp only at hm2
  go_wp2_with fail
  refine hm2.mono ?_; rintro e w2 ⟨rfl, hd2⟩
  have hD2 := hD1.trans hd2
  have hB3 := build_ko 5 o
  have hLx : K.L ≤ w2.heap.size := Nat.le_trans hle hD2.size
  have hbx : w.heap.size ≤ w2.heap.size := hD2.size
  have hblk3 : (w2.alloc (.cells (stC { Sx.zero with kind := 5, of_ := o } vnil vnil vnil vnil vnil) 31)).heap[w2.heap.size]? = some (.cells (stC { Sx.zero with kind := 5, of_ := o } vnil vnil vnil vnil vnil) 31 (0, 0)) := blk_new w2 _
  have hD3 := hD2.alloc (.cells (stC { Sx.zero with kind := 5, of_ := o } vnil vnil vnil vnil vnil) 31)
  have hm4 := must1 hD3.1 (⟨#[40]⟩ : ByteArray)
  rw [hq3] at hm4
  try simp only [sz_alloc] at hm4
  go_wp2_with (refine wpl_sto rfl _ _ rfl rfl rfl rfl rfl ?_)
  refine hm4.mono ?_; rintro e w4 ⟨rfl, hd4⟩
  have hD4 := hD3.trans hd4
  have hblk4 := hd4.blk hblk3 hLx
  have hm5 := columns_any hD4.1 10 (by omega)
  rw [hq4] at hm5
  try simp only at hm5
  go_wp2_with fail
  refine hm5.mono ?_; rintro e w5 ⟨ac, cc, rfl, hd5, hr5⟩
  have hD5 := hD4.trans hd5
  have hblk5 := hd5.blk hblk4 hLx
  have hz5 := hD4.size
  try simp only [sz_alloc, sz_set] at hz5 hr5
  replace hr5 := ownsRow_mono hr5 hz5
  have hm6 := must3 hD5.1 (⟨#[41]⟩ : ByteArray) (⟨#[118, 97, 108, 117, 101, 115]⟩ : ByteArray) (⟨#[40]⟩ : ByteArray)
  rw [hq5] at hm6
  try simp only [sz_alloc, sz_set] at hm6
  go_wp2_with fail
  refine hm6.mono ?_; rintro e w6 ⟨rfl, hd6⟩
  have hD6 := hD5.trans hd6
  have hblk6 := hd6.blk hblk5 hLx
  have hr_c6 := hd6.row hr5 hle
  have hm7 := value_b hD6.1 hq6
  try simp only [sz_alloc, sz_set] at hm7
  go_wp2_with fail
  refine hm7.mono ?_; rintro e w7 ⟨rfl, hd7⟩
  have hD7 := hD6.trans hd7
  have hblk7 := hd7.blk hblk6 hLx
  have hr_c7 := hd7.row hr_c6 hle
  have hv := row_lit w7 [.int .i64 v0.ty, .string v0.s, .int .i64 v0.n] 59 1 3 w.heap.size rfl (by decide) hD7.size
  have hDv := hD7.alloc (.cells #[.int .i64 v0.ty, .string v0.s, .int .i64 v0.n] 59)
  have hblkv := blk_alloc hblk7 (.cells #[.int .i64 v0.ty, .string v0.s, .int .i64 v0.n] 59)
  have hcv := hr_c7.alloc (.cells #[.int .i64 v0.ty, .string v0.s, .int .i64 v0.n] 59)
  go_wp2_with fail
  go_loopw [5] (fun v wr => ∃ (l : List Tm) (a : Option Addr) (c2 : Nat) (σ2 : Ps) (n : Nat), v = .slice a l.length c2 ∧ Did K w σ2 wr ∧ wr.ownsRow w.heap.size 59 3 (.slice a l.length c2) l.length (flatV l) ∧ wr.heap[w2.heap.size]? = some (.cells (stC { Sx.zero with kind := 5, of_ := o } vnil vnil vnil vnil vnil) 31 (0, 0)) ∧ wr.ownsRow w.heap.size 9 1 (.slice ac c.length cc) c.length (c.map Value.string) ∧ Hid (K.X.valuesF n σ2 l = (vs, σv)) ∧ K.X.T.length - σ2.i ≤ n ∧ l.length + n ≤ K.X.T.length + 1) (fun _ wr => K.X.T.length - psI K wr)
  case atStart => exact ⟨[v0], _, _, σ6, K.X.T.length, rfl, hDv, hv, hblkv, hcv, hR, by omega, by show 1 + _ ≤ _; omega⟩
  case round =>
    clear hv hDv hblkv hcv
    obtain ⟨l, a, c2, σ2, n, rfl, hD, hown, hblk, hcr, HR, hn, hln⟩ := hrel
    have hmay := may_any hD.1 (⟨#[44]⟩ : ByteArray)
    have hpI := psI_eq hD.1
    have hsz := hD.size
    unfold Tx.may at hmay
    cases hs : K.X.sees σ2 (⟨#[44]⟩ : ByteArray) with
    | true =>
      obtain ⟨hlt, _⟩ := sees_lt hs
      rw [hs, if_pos rfl] at hmay
      obtain ⟨n, rfl⟩ : ∃ m, n = m + 1 := ⟨n - 1, by omega⟩
      have hst : σ2.step.i = σ2.i + 1 := rfl
      have hi := value_i K.X σ2.step
      obtain ⟨⟨t, σ3⟩, hx⟩ : ∃ r, K.X.value σ2.step = r := ⟨_, rfl⟩
      have HR2 : Hid (K.X.valuesF n σ3 (l ++ [t]) = (vs, σv)) := by
        have h := HR.out
        rw [Tx.valuesF, hs, if_pos rfl] at h
        simp only [hx] at h
        exact Lib.hid h
      rw [hx] at hi
      replace hi : σ2.step.i ≤ σ3.i := hi
      have hT := HT.out
      go_wp2_with fail
      refine hmay.mono ?_; rintro e w20 ⟨rfl, hd20⟩
      have hD20 := hD.trans hd20
      have hval := value_b hD20.1 hx
      go_wp2_with fail
      refine hval.mono ?_; rintro e w21 ⟨rfl, hd21⟩
      have hD21 := hD20.trans hd21
      have hown21 := hd21.row (hd20.row hown hle) hle
      have hblk21 := hd21.blk (hd20.blk hblk hLx) hLx
      have hcr21 := hd21.row (hd20.row hcr hle) hle
      have hs21 := hD21.size
      go_wp2_with (at_builtin; refine app1 Tryz.eltT rfl _ _ rfl w.heap.size _ _ _ rfl (hown21.alloc _) _ _ [.int .i64 t.ty, .string t.s, .int .i64 t.n] rfl rfl (cells_last _ _ _) (by intro u hu; simp at hu; rcases hu with rfl | rfl | rfl <;> rfl) (by omega) (by simp; omega) ?_; intro a' c' w22 h22 hg hn22)
      have hD22 := (hD21.alloc (.cells #[.int .i64 t.ty, .string t.s, .int .i64 t.n] 59)).grown hg (fun g hg2 => (hown21.lt g hg2).1)
      have hpI22 := psI_eq hD22.1
      go_roundw
      case rel =>
        refine ⟨l ++ [t], a', c', σ3, n, by rw [List.length_append]; rfl, hD22, ?_, ?_, ?_, HR2.out, by omega, by rw [List.length_append]; show l.length + 1 + n ≤ _; omega⟩
        · rw [List.length_append]; show w22.ownsRow _ _ _ (.slice a' (l.length + 1) c') (l.length + 1) (flatV (l ++ [t])); rw [show flatV (l ++ [t]) = flatV l ++ tmCells t by simp [flatV]]; exact h22
        · have hb := blk_alloc hblk21 (.cells #[.int .i64 t.ty, .string t.s, .int .i64 t.n] 59)
          rw [hg.block _ (blk_lt hb) (fun e => row_nblk hown21 hblk21 (by decide) e.symm)]; exact hb
        · exact (rows_apart (hown21.alloc (.cells #[.int .i64 t.ty, .string t.s, .int .i64 t.n] 59)) (hcr21.alloc _) (by decide)).keep (hcr21.alloc _) hg
      case measure => rw [hpI, hpI22]; omega
    | false =>
      rw [hs, if_neg (by decide)] at hmay
      have HR2 : l = vs ∧ σ2 = σv := by
        have h := HR.out
        cases n with
        | zero => cases h; exact ⟨rfl, rfl⟩
        | succ n => rw [Tx.valuesF, hs, if_neg (by decide)] at h; cases h; exact ⟨rfl, rfl⟩
      obtain ⟨rfl, rfl⟩ := HR2
      have hlv : 0 < l.length := by have h := valuesF_len K.X K.X.T.length σ6 [v0]; rw [hR] at h; exact h
      have hlc : 0 < c.length := hcl.1
      have hcl2 := hcl.2
      have hT := HT.out
      go_wp2_with fail
      refine hmay.mono ?_; rintro e w20 ⟨rfl, hd20⟩
      have hD20 := hD.trans hd20
      have hr20 := hd20.row hown hle
      have hb20 := hd20.blk hblk hLx
      have hc20 := hd20.row hcr hle
      have hse := sees_any hD20.1 (⟨#[41]⟩ : ByteArray)
      cases hs2 : K.X.sees σ2 (⟨#[41]⟩ : ByteArray) with
      | false =>
        have HIF : Hid ((if (K.X.sees σ2 (⟨#[41]⟩ : ByteArray) && l.length != c.length) = true then K.X.fail σ2 else σ2) = σ2) := by show _ = _; rw [hs2]; rfl
        rw [hs2] at hse
        go_wp2_with fail
        refine hse.mono ?_; rintro e w21 ⟨rfl, hb21⟩
        have hd21 := (Did.refl hD20.1).below hb21
        have hD21 := hD20.trans hd21
        have hr21 := hd21.row hr20 hle
        have hbk21 := hd21.blk hb20 hLx
        have hc21 := hd21.row hc20 hle
        have hm21 := must1 hD21.1 (⟨#[41]⟩ : ByteArray)
        go_wp2_with fail
        refine hm21.mono ?_; rintro e w22 ⟨rfl, hd22⟩
        have hD22 := hD21.trans hd22
        have hr22 := hd22.row hr21 hle
        have hbk22 := hd22.blk hbk21 hLx
        have hc22 := hd22.row hc21 hle
        have hcap := row_cap hc22
        obtain ⟨_, _, hsl, hgc⟩ := row_read hc22
        cases hsl
        obtain ⟨gc, rfl, _, hgcl, hcc⟩ := hgc hlc
        obtain ⟨_, _, hsl, hgv⟩ := row_read hr22
        cases hsl
        obtain ⟨gv, rfl, _, hgvl, hvv⟩ := hgv hlv
        clear hcc hgc hvv hgv
        have q0 : (0 : Int) ≤ (c.length : Int) := by omega
        have q1 : (0 : Int) ≤ (l.length : Int) := by omega
        by_cases hcv : c.length ≤ l.length
        · have q2 : ¬ (l.length : Int) < (c.length : Int) := by omega
          have q3 : (c.length : Int) ≤ (l.length : Int) := by omega
          have q4 : (c.length : Int) ≤ (cc : Int) := by omega
          go_wp2_with fail
          go_loopw [6, 7, 56] (fun _ _ i wr => ∃ (j : Nat) (a3 : Option Addr) (c3 : Nat), i = .int .i64 j ∧ j ≤ c.length ∧ Did K w (K.X.must σ2 [(⟨#[41]⟩ : ByteArray)]) wr ∧ wr.heap[w2.heap.size]? = some (.cells (stC { Sx.zero with kind := 5, of_ := o } vnil vnil (.slice a3 j c3) vnil vnil) 31 (0, 0)) ∧ wr.ownsRow w.heap.size 61 4 (.slice a3 j c3) j (flatR (List.zipWith Pr.mk (c.take j) (l.take j))) ∧ wr.ownsRow w.heap.size 9 1 (.slice (some ⟨gc, 0, none⟩) c.length cc) c.length (c.map Value.string) ∧ wr.ownsRow w.heap.size 59 3 (.slice (some ⟨gv, 0, none⟩) l.length c2) l.length (flatV l)) (fun _ _ i _ => c.length - (intOf i).toNat)
          case atStart => exact ⟨0, none, 0, rfl, by omega, hD22, hbk22, World.ownsRow_nil _ _ _ _, hc22, hr22⟩
          case round =>
            obtain ⟨j, a3, c3, rfl, hj, hDr, hbr, hsr, hnr, hvr⟩ := hrel
            by_cases hjl0 : j < c.length
            · have p0 : (j : Int) < (c.length : Int) := by omega
              have hjl : j < c.length := by omega
              have p1 : (0 : Int) ≤ (j : Int) := by omega
              have p2 : (j : Int) < (l.length : Int) := by omega
              have p3 : (j : Int) < (c.length : Int) := by omega
              have k0 : wr.cell? ⟨gc, j, none⟩ = some (.string c[j]) := ownsRow_cell hnr j _ (by rw [List.getElem?_map, List.getElem?_eq_getElem hjl]; rfl)
              have hjv : j < l.length := by omega
              have k1 : wr.cell? ⟨gv, j * 3, none⟩ = some (.int .i64 l[j].ty) := ownsRow_cell hvr (j * 3) _ (by have := flatV_at l j 0 hjv (by omega); rw [Nat.add_zero] at this; rw [this]; rfl)
              have k2 : wr.cell? ⟨gv, j * 3 + 1, none⟩ = some (.string l[j].s) := ownsRow_cell hvr (j * 3 + 1) _ (by rw [flatV_at l j 1 hjv (by omega)]; rfl)
              have k3 : wr.cell? ⟨gv, j * 3 + 2, none⟩ = some (.int .i64 l[j].n) := ownsRow_cell hvr (j * 3 + 2) _ (by rw [flatV_at l j 2 hjv (by omega)]; rfl)
              have y12 := (st18 hbr).2.2.2.2.2.2.2.2.2.2.2.2.1
              have u12 := blk_frozen0 hbr 12
              have hszr := hDr.size
              have z0 := blk_lt hbr
              have z1 : gc < wr.heap.size := cell_lt k0
              have z2 : gv < wr.heap.size := cell_lt k1
              have HX := Lib.hid (zip_snoc c l j hjl hjv)
              generalize c[j] = nm at *
              generalize l[j] = tm at *
              clear hjv
              go_wp2_with fail
              go_region_law (refine step_app Tryz.eltP rfl _ _ rfl w.heap.size _ _ _ rfl (hsr.alloc _) _ _ [.string nm, .int .i64 tm.ty, .string tm.s, .int .i64 tm.n] rfl rfl (fun j u hj => by rw [add_at, Nat.zero_add]; exact cells_last _ _ _ j u hj) (by intro u hu; simp at hu; rcases hu with rfl | rfl | rfl | rfl <;> rfl) (by omega) (by simp; omega) ?_; intro g3 cap3 w3 h3 hg3 hn3 hl3; have hb3 : w3.heap[w2.heap.size]? = some (.cells (stC { Sx.zero with kind := 5, of_ := o } vnil vnil (.slice a3 j c3) vnil vnil) 31 (0, 0)) := (hg3.block _ (blk_lt (blk_alloc hbr _)) (fun e => row_nblk hsr hbr (by decide) e.symm)).trans (blk_alloc hbr _); have y3 := (st18 hb3).2.2.2.2.2.2.2.2.2.2.2.2.1; have u3 := blk_frozen0 hb3 12)
              all_goals
                have hg4 : (wr.alloc (.cells #[.string nm, .int .i64 tm.ty, .string tm.s, .int .i64 tm.n] 61)).grownBy w3 (Value.slice a3 j c3).ownBlock := ⟨hg3.os, hg3.tape, hg3.output, hg3.size, hg3.block⟩
                have hap : ∀ {e : TypeId} {sz nn : Nat} {u : Value} {ys : List Value}, wr.ownsRow w.heap.size e sz u nn ys → 61 ≠ e → w3.ownsRow w.heap.size e sz u nn ys := fun hu hne => (rows_apart hsr hu hne).keep (hu.alloc _) hg4
                have hD3 := (hDr.alloc _).grown hg4 (fun g hg2 => (hsr.lt g hg2).1)
                rw [← HX.out] at h3
                go_wp2_with fail
                go_roundw
                case rel => exact ⟨j + 1, some ⟨g3, 0, none⟩, cap3, by go_num, by omega, hD3.own hbx 12 _, put_sets hb3 _, row_set h3 hb3 (by decide) 12 _, row_set (hap hnr (by decide)) hb3 (by decide) 12 _, row_set (hap hvr (by decide)) hb3 (by decide) 12 _⟩
                case measure => simp [intOf]; omega
            · have hje : j = c.length := by omega
              subst hje
              have HZ := zip_all c l (c.length) (by omega)
              have HZL := zip_len c l
              rw [HZ] at hsr
              clear HZ
              obtain ⟨Z, hZ⟩ : ∃ Z, List.zipWith Pr.mk c l = Z := ⟨_, rfl⟩
              rw [hZ] at hsr HZL
              obtain ⟨⟨xu, σu⟩, hu⟩ : ∃ r, K.X.using_ (K.X.must σ2 [(⟨#[41]⟩ : ByteArray)]) true { Sx.zero with kind := 5, of_ := o, sets := Z } = r := ⟨_, rfl⟩
              have HU := Lib.hid (using_sl K.X _ _ _ _ _ hu)
              have hus := using_any hDr hbx (x := { Sx.zero with kind := 5, of_ := o, sets := Z }) hbr true
              rw [hu] at hus
              go_wp2_with fail
              refine hus.mono ?_; rintro e w40 ⟨rfl, hD40, hb40, hk40⟩
              have hs40 := hk40.row hsr hle hbr (by decide)
              have hBx := build_ch
              have hMx := mki_ch
              go_wp2_with (refine wpl_st rfl _ rfl rfl rfl hb40 ?_)
              go_ret
              have HE : Hid (K.X.insert σ = (xu, σu)) := by
                show _ = _
                have hi := HIF.out
                unfold Tx.insert
                simp only [hq1, hq2, hq3, hq4, hq5, hq6, hR, hi, hZ, hu]
              rw [HE.out]
              refine ⟨vnil, vnil, _, vnil, rfl, hD40, ?_⟩
              obtain ⟨u1, u2, rfl⟩ := HU.out
              refine ⟨World.ownsRow_nil _ _ _ _, World.ownsRow_nil _ _ _ _, ?_, World.ownsRow_nil _ _ _ _⟩
              show w40.ownsRow w.heap.size _ 4 _ Z.length (flatR Z)
              rw [show Z.length = c.length by omega]
              exact hs40
        · have q2 : (l.length : Int) < (c.length : Int) := by omega
          have q3 : ¬ (c.length : Int) ≤ (l.length : Int) := by omega
          have q4 : (l.length : Int) ≤ (cc : Int) := by omega
          go_wp2_with fail
          go_loopw [6, 7, 56] (fun _ _ i wr => ∃ (j : Nat) (a3 : Option Addr) (c3 : Nat), i = .int .i64 j ∧ j ≤ l.length ∧ Did K w (K.X.must σ2 [(⟨#[41]⟩ : ByteArray)]) wr ∧ wr.heap[w2.heap.size]? = some (.cells (stC { Sx.zero with kind := 5, of_ := o } vnil vnil (.slice a3 j c3) vnil vnil) 31 (0, 0)) ∧ wr.ownsRow w.heap.size 61 4 (.slice a3 j c3) j (flatR (List.zipWith Pr.mk (c.take j) (l.take j))) ∧ wr.ownsRow w.heap.size 9 1 (.slice (some ⟨gc, 0, none⟩) c.length cc) c.length (c.map Value.string) ∧ wr.ownsRow w.heap.size 59 3 (.slice (some ⟨gv, 0, none⟩) l.length c2) l.length (flatV l)) (fun _ _ i _ => l.length - (intOf i).toNat)
          case atStart => exact ⟨0, none, 0, rfl, by omega, hD22, hbk22, World.ownsRow_nil _ _ _ _, hc22, hr22⟩
          case round =>
            obtain ⟨j, a3, c3, rfl, hj, hDr, hbr, hsr, hnr, hvr⟩ := hrel
            by_cases hjl0 : j < l.length
            · have p0 : (j : Int) < (l.length : Int) := by omega
              have hjl : j < c.length := by omega
              have p1 : (0 : Int) ≤ (j : Int) := by omega
              have p2 : (j : Int) < (l.length : Int) := by omega
              have p3 : (j : Int) < (c.length : Int) := by omega
              have k0 : wr.cell? ⟨gc, j, none⟩ = some (.string c[j]) := ownsRow_cell hnr j _ (by rw [List.getElem?_map, List.getElem?_eq_getElem hjl]; rfl)
              have hjv : j < l.length := by omega
              have k1 : wr.cell? ⟨gv, j * 3, none⟩ = some (.int .i64 l[j].ty) := ownsRow_cell hvr (j * 3) _ (by have := flatV_at l j 0 hjv (by omega); rw [Nat.add_zero] at this; rw [this]; rfl)
              have k2 : wr.cell? ⟨gv, j * 3 + 1, none⟩ = some (.string l[j].s) := ownsRow_cell hvr (j * 3 + 1) _ (by rw [flatV_at l j 1 hjv (by omega)]; rfl)
              have k3 : wr.cell? ⟨gv, j * 3 + 2, none⟩ = some (.int .i64 l[j].n) := ownsRow_cell hvr (j * 3 + 2) _ (by rw [flatV_at l j 2 hjv (by omega)]; rfl)
              have y12 := (st18 hbr).2.2.2.2.2.2.2.2.2.2.2.2.1
              have u12 := blk_frozen0 hbr 12
              have hszr := hDr.size
              have z0 := blk_lt hbr
              have z1 : gc < wr.heap.size := cell_lt k0
              have z2 : gv < wr.heap.size := cell_lt k1
              have HX := Lib.hid (zip_snoc c l j hjl hjv)
              generalize c[j] = nm at *
              generalize l[j] = tm at *
              clear hjv
              go_wp2_with fail
              go_region_law (refine step_app Tryz.eltP rfl _ _ rfl w.heap.size _ _ _ rfl (hsr.alloc _) _ _ [.string nm, .int .i64 tm.ty, .string tm.s, .int .i64 tm.n] rfl rfl (fun j u hj => by rw [add_at, Nat.zero_add]; exact cells_last _ _ _ j u hj) (by intro u hu; simp at hu; rcases hu with rfl | rfl | rfl | rfl <;> rfl) (by omega) (by simp; omega) ?_; intro g3 cap3 w3 h3 hg3 hn3 hl3; have hb3 : w3.heap[w2.heap.size]? = some (.cells (stC { Sx.zero with kind := 5, of_ := o } vnil vnil (.slice a3 j c3) vnil vnil) 31 (0, 0)) := (hg3.block _ (blk_lt (blk_alloc hbr _)) (fun e => row_nblk hsr hbr (by decide) e.symm)).trans (blk_alloc hbr _); have y3 := (st18 hb3).2.2.2.2.2.2.2.2.2.2.2.2.1; have u3 := blk_frozen0 hb3 12)
              all_goals
                have hg4 : (wr.alloc (.cells #[.string nm, .int .i64 tm.ty, .string tm.s, .int .i64 tm.n] 61)).grownBy w3 (Value.slice a3 j c3).ownBlock := ⟨hg3.os, hg3.tape, hg3.output, hg3.size, hg3.block⟩
                have hap : ∀ {e : TypeId} {sz nn : Nat} {u : Value} {ys : List Value}, wr.ownsRow w.heap.size e sz u nn ys → 61 ≠ e → w3.ownsRow w.heap.size e sz u nn ys := fun hu hne => (rows_apart hsr hu hne).keep (hu.alloc _) hg4
                have hD3 := (hDr.alloc _).grown hg4 (fun g hg2 => (hsr.lt g hg2).1)
                rw [← HX.out] at h3
                go_wp2_with fail
                go_roundw
                case rel => exact ⟨j + 1, some ⟨g3, 0, none⟩, cap3, by go_num, by omega, hD3.own hbx 12 _, put_sets hb3 _, row_set h3 hb3 (by decide) 12 _, row_set (hap hnr (by decide)) hb3 (by decide) 12 _, row_set (hap hvr (by decide)) hb3 (by decide) 12 _⟩
                case measure => simp [intOf]; omega
            · have hje : j = l.length := by omega
              subst hje
              have HZ := zip_all c l (l.length) (by omega)
              have HZL := zip_len c l
              rw [HZ] at hsr
              clear HZ
              obtain ⟨Z, hZ⟩ : ∃ Z, List.zipWith Pr.mk c l = Z := ⟨_, rfl⟩
              rw [hZ] at hsr HZL
              obtain ⟨⟨xu, σu⟩, hu⟩ : ∃ r, K.X.using_ (K.X.must σ2 [(⟨#[41]⟩ : ByteArray)]) true { Sx.zero with kind := 5, of_ := o, sets := Z } = r := ⟨_, rfl⟩
              have HU := Lib.hid (using_sl K.X _ _ _ _ _ hu)
              have hus := using_any hDr hbx (x := { Sx.zero with kind := 5, of_ := o, sets := Z }) hbr true
              rw [hu] at hus
              go_wp2_with fail
              refine hus.mono ?_; rintro e w40 ⟨rfl, hD40, hb40, hk40⟩
              have hs40 := hk40.row hsr hle hbr (by decide)
              have hBx := build_ch
              have hMx := mki_ch
              go_wp2_with (refine wpl_st rfl _ rfl rfl rfl hb40 ?_)
              go_ret
              have HE : Hid (K.X.insert σ = (xu, σu)) := by
                show _ = _
                have hi := HIF.out
                unfold Tx.insert
                simp only [hq1, hq2, hq3, hq4, hq5, hq6, hR, hi, hZ, hu]
              rw [HE.out]
              refine ⟨vnil, vnil, _, vnil, rfl, hD40, ?_⟩
              obtain ⟨u1, u2, rfl⟩ := HU.out
              refine ⟨World.ownsRow_nil _ _ _ _, World.ownsRow_nil _ _ _ _, ?_, World.ownsRow_nil _ _ _ _⟩
              show w40.ownsRow w.heap.size _ 4 _ Z.length (flatR Z)
              rw [show Z.length = l.length by omega]
              exact hs40
      | true =>
        rw [hs2] at hse
        by_cases hll : l.length = c.length
        · have HIF : Hid ((if (K.X.sees σ2 (⟨#[41]⟩ : ByteArray) && l.length != c.length) = true then K.X.fail σ2 else σ2) = σ2) := by show _ = _; rw [hs2, hll]; simp
          have q9 : ((l.length : Int) != (c.length : Int)) = false := by rw [hll]; simp
          go_wp2_with fail
          refine hse.mono ?_; rintro e w21 ⟨rfl, hb21⟩
          have hd21 := (Did.refl hD20.1).below hb21
          have hD21 := hD20.trans hd21
          have hr21 := hd21.row hr20 hle
          have hbk21 := hd21.blk hb20 hLx
          have hc21 := hd21.row hc20 hle
          have hm21 := must1 hD21.1 (⟨#[41]⟩ : ByteArray)
          go_wp2_with fail
          refine hm21.mono ?_; rintro e w22 ⟨rfl, hd22⟩
          have hD22 := hD21.trans hd22
          have hr22 := hd22.row hr21 hle
          have hbk22 := hd22.blk hbk21 hLx
          have hc22 := hd22.row hc21 hle
          have hcap := row_cap hc22
          obtain ⟨_, _, hsl, hgc⟩ := row_read hc22
          cases hsl
          obtain ⟨gc, rfl, _, hgcl, hcc⟩ := hgc hlc
          obtain ⟨_, _, hsl, hgv⟩ := row_read hr22
          cases hsl
          obtain ⟨gv, rfl, _, hgvl, hvv⟩ := hgv hlv
          clear hcc hgc hvv hgv
          have q0 : (0 : Int) ≤ (c.length : Int) := by omega
          have q1 : (0 : Int) ≤ (l.length : Int) := by omega
          by_cases hcv : c.length ≤ l.length
          · have q2 : ¬ (l.length : Int) < (c.length : Int) := by omega
            have q3 : (c.length : Int) ≤ (l.length : Int) := by omega
            have q4 : (c.length : Int) ≤ (cc : Int) := by omega
            go_wp2_with fail
            go_loopw [6, 7, 56] (fun _ _ i wr => ∃ (j : Nat) (a3 : Option Addr) (c3 : Nat), i = .int .i64 j ∧ j ≤ c.length ∧ Did K w (K.X.must σ2 [(⟨#[41]⟩ : ByteArray)]) wr ∧ wr.heap[w2.heap.size]? = some (.cells (stC { Sx.zero with kind := 5, of_ := o } vnil vnil (.slice a3 j c3) vnil vnil) 31 (0, 0)) ∧ wr.ownsRow w.heap.size 61 4 (.slice a3 j c3) j (flatR (List.zipWith Pr.mk (c.take j) (l.take j))) ∧ wr.ownsRow w.heap.size 9 1 (.slice (some ⟨gc, 0, none⟩) c.length cc) c.length (c.map Value.string) ∧ wr.ownsRow w.heap.size 59 3 (.slice (some ⟨gv, 0, none⟩) l.length c2) l.length (flatV l)) (fun _ _ i _ => c.length - (intOf i).toNat)
            case atStart => exact ⟨0, none, 0, rfl, by omega, hD22, hbk22, World.ownsRow_nil _ _ _ _, hc22, hr22⟩
            case round =>
              obtain ⟨j, a3, c3, rfl, hj, hDr, hbr, hsr, hnr, hvr⟩ := hrel
              by_cases hjl0 : j < c.length
              · have p0 : (j : Int) < (c.length : Int) := by omega
                have hjl : j < c.length := by omega
                have p1 : (0 : Int) ≤ (j : Int) := by omega
                have p2 : (j : Int) < (l.length : Int) := by omega
                have p3 : (j : Int) < (c.length : Int) := by omega
                have k0 : wr.cell? ⟨gc, j, none⟩ = some (.string c[j]) := ownsRow_cell hnr j _ (by rw [List.getElem?_map, List.getElem?_eq_getElem hjl]; rfl)
                have hjv : j < l.length := by omega
                have k1 : wr.cell? ⟨gv, j * 3, none⟩ = some (.int .i64 l[j].ty) := ownsRow_cell hvr (j * 3) _ (by have := flatV_at l j 0 hjv (by omega); rw [Nat.add_zero] at this; rw [this]; rfl)
                have k2 : wr.cell? ⟨gv, j * 3 + 1, none⟩ = some (.string l[j].s) := ownsRow_cell hvr (j * 3 + 1) _ (by rw [flatV_at l j 1 hjv (by omega)]; rfl)
                have k3 : wr.cell? ⟨gv, j * 3 + 2, none⟩ = some (.int .i64 l[j].n) := ownsRow_cell hvr (j * 3 + 2) _ (by rw [flatV_at l j 2 hjv (by omega)]; rfl)
                have y12 := (st18 hbr).2.2.2.2.2.2.2.2.2.2.2.2.1
                have u12 := blk_frozen0 hbr 12
                have hszr := hDr.size
                have z0 := blk_lt hbr
                have z1 : gc < wr.heap.size := cell_lt k0
                have z2 : gv < wr.heap.size := cell_lt k1
                have HX := Lib.hid (zip_snoc c l j hjl hjv)
                generalize c[j] = nm at *
                generalize l[j] = tm at *
                clear hjv
                go_wp2_with fail
                go_region_law (refine step_app Tryz.eltP rfl _ _ rfl w.heap.size _ _ _ rfl (hsr.alloc _) _ _ [.string nm, .int .i64 tm.ty, .string tm.s, .int .i64 tm.n] rfl rfl (fun j u hj => by rw [add_at, Nat.zero_add]; exact cells_last _ _ _ j u hj) (by intro u hu; simp at hu; rcases hu with rfl | rfl | rfl | rfl <;> rfl) (by omega) (by simp; omega) ?_; intro g3 cap3 w3 h3 hg3 hn3 hl3; have hb3 : w3.heap[w2.heap.size]? = some (.cells (stC { Sx.zero with kind := 5, of_ := o } vnil vnil (.slice a3 j c3) vnil vnil) 31 (0, 0)) := (hg3.block _ (blk_lt (blk_alloc hbr _)) (fun e => row_nblk hsr hbr (by decide) e.symm)).trans (blk_alloc hbr _); have y3 := (st18 hb3).2.2.2.2.2.2.2.2.2.2.2.2.1; have u3 := blk_frozen0 hb3 12)
                all_goals
                  have hg4 : (wr.alloc (.cells #[.string nm, .int .i64 tm.ty, .string tm.s, .int .i64 tm.n] 61)).grownBy w3 (Value.slice a3 j c3).ownBlock := ⟨hg3.os, hg3.tape, hg3.output, hg3.size, hg3.block⟩
                  have hap : ∀ {e : TypeId} {sz nn : Nat} {u : Value} {ys : List Value}, wr.ownsRow w.heap.size e sz u nn ys → 61 ≠ e → w3.ownsRow w.heap.size e sz u nn ys := fun hu hne => (rows_apart hsr hu hne).keep (hu.alloc _) hg4
                  have hD3 := (hDr.alloc _).grown hg4 (fun g hg2 => (hsr.lt g hg2).1)
                  rw [← HX.out] at h3
                  go_wp2_with fail
                  go_roundw
                  case rel => exact ⟨j + 1, some ⟨g3, 0, none⟩, cap3, by go_num, by omega, hD3.own hbx 12 _, put_sets hb3 _, row_set h3 hb3 (by decide) 12 _, row_set (hap hnr (by decide)) hb3 (by decide) 12 _, row_set (hap hvr (by decide)) hb3 (by decide) 12 _⟩
                  case measure => simp [intOf]; omega
              · have hje : j = c.length := by omega
                subst hje
                have HZ := zip_all c l (c.length) (by omega)
                have HZL := zip_len c l
                rw [HZ] at hsr
                clear HZ
                obtain ⟨Z, hZ⟩ : ∃ Z, List.zipWith Pr.mk c l = Z := ⟨_, rfl⟩
                rw [hZ] at hsr HZL
                obtain ⟨⟨xu, σu⟩, hu⟩ : ∃ r, K.X.using_ (K.X.must σ2 [(⟨#[41]⟩ : ByteArray)]) true { Sx.zero with kind := 5, of_ := o, sets := Z } = r := ⟨_, rfl⟩
                have HU := Lib.hid (using_sl K.X _ _ _ _ _ hu)
                have hus := using_any hDr hbx (x := { Sx.zero with kind := 5, of_ := o, sets := Z }) hbr true
                rw [hu] at hus
                go_wp2_with fail
                refine hus.mono ?_; rintro e w40 ⟨rfl, hD40, hb40, hk40⟩
                have hs40 := hk40.row hsr hle hbr (by decide)
                have hBx := build_ch
                have hMx := mki_ch
                go_wp2_with (refine wpl_st rfl _ rfl rfl rfl hb40 ?_)
                go_ret
                have HE : Hid (K.X.insert σ = (xu, σu)) := by
                  show _ = _
                  have hi := HIF.out
                  unfold Tx.insert
                  simp only [hq1, hq2, hq3, hq4, hq5, hq6, hR, hi, hZ, hu]
                rw [HE.out]
                refine ⟨vnil, vnil, _, vnil, rfl, hD40, ?_⟩
                obtain ⟨u1, u2, rfl⟩ := HU.out
                refine ⟨World.ownsRow_nil _ _ _ _, World.ownsRow_nil _ _ _ _, ?_, World.ownsRow_nil _ _ _ _⟩
                show w40.ownsRow w.heap.size _ 4 _ Z.length (flatR Z)
                rw [show Z.length = c.length by omega]
                exact hs40
          · exact absurd hll (by omega)
        · have HIF : Hid ((if (K.X.sees σ2 (⟨#[41]⟩ : ByteArray) && l.length != c.length) = true then K.X.fail σ2 else σ2) = K.X.fail σ2) := by show _ = _; rw [hs2, if_pos (by simp [hll])]
          have q9 : ((l.length : Int) != (c.length : Int)) = true := bne_iff_ne.2 (by omega)
          go_wp2_with fail
          refine hse.mono ?_; rintro e w31 ⟨rfl, hb31⟩
          have hd31 := (Did.refl hD20.1).below hb31
          have hD31 := hD20.trans hd31
          have ha31 := here_any hD31.1
          go_wp2_with fail
          refine ha31.mono ?_; rintro e w32 ⟨rfl, m32, rfl⟩
          have hd32 := (Did.refl hD31.1).drewN m32
          have hw32 := wrong_any hd32.1 (K.X.here σ2)
          go_wp2_with fail
          refine hw32.mono ?_; rintro e w21 ⟨rfl, hd33⟩
          have hd21 := (hd31.trans hd32).trans hd33
          have hD21 : Did K w (K.X.fail σ2) w21 := hD20.trans hd21
          have hr21 := hd21.row hr20 hle
          have hbk21 := hd21.blk hb20 hLx
          have hc21 := hd21.row hc20 hle
          have hm21 := must1 hD21.1 (⟨#[41]⟩ : ByteArray)
          go_wp2_with fail
          refine hm21.mono ?_; rintro e w22 ⟨rfl, hd22⟩
          have hD22 := hD21.trans hd22
          have hr22 := hd22.row hr21 hle
          have hbk22 := hd22.blk hbk21 hLx
          have hc22 := hd22.row hc21 hle
          have hcap := row_cap hc22
          obtain ⟨_, _, hsl, hgc⟩ := row_read hc22
          cases hsl
          obtain ⟨gc, rfl, _, hgcl, hcc⟩ := hgc hlc
          obtain ⟨_, _, hsl, hgv⟩ := row_read hr22
          cases hsl
          obtain ⟨gv, rfl, _, hgvl, hvv⟩ := hgv hlv
          clear hcc hgc hvv hgv
          have q0 : (0 : Int) ≤ (c.length : Int) := by omega
          have q1 : (0 : Int) ≤ (l.length : Int) := by omega
          by_cases hcv : c.length ≤ l.length
          · have q2 : ¬ (l.length : Int) < (c.length : Int) := by omega
            have q3 : (c.length : Int) ≤ (l.length : Int) := by omega
            have q4 : (c.length : Int) ≤ (cc : Int) := by omega
            go_wp2_with fail
            go_loopw [6, 7, 56] (fun _ _ i wr => ∃ (j : Nat) (a3 : Option Addr) (c3 : Nat), i = .int .i64 j ∧ j ≤ c.length ∧ Did K w (K.X.must (K.X.fail σ2) [(⟨#[41]⟩ : ByteArray)]) wr ∧ wr.heap[w2.heap.size]? = some (.cells (stC { Sx.zero with kind := 5, of_ := o } vnil vnil (.slice a3 j c3) vnil vnil) 31 (0, 0)) ∧ wr.ownsRow w.heap.size 61 4 (.slice a3 j c3) j (flatR (List.zipWith Pr.mk (c.take j) (l.take j))) ∧ wr.ownsRow w.heap.size 9 1 (.slice (some ⟨gc, 0, none⟩) c.length cc) c.length (c.map Value.string) ∧ wr.ownsRow w.heap.size 59 3 (.slice (some ⟨gv, 0, none⟩) l.length c2) l.length (flatV l)) (fun _ _ i _ => c.length - (intOf i).toNat)
            case atStart => exact ⟨0, none, 0, rfl, by omega, hD22, hbk22, World.ownsRow_nil _ _ _ _, hc22, hr22⟩
            case round =>
              obtain ⟨j, a3, c3, rfl, hj, hDr, hbr, hsr, hnr, hvr⟩ := hrel
              by_cases hjl0 : j < c.length
              · have p0 : (j : Int) < (c.length : Int) := by omega
                have hjl : j < c.length := by omega
                have p1 : (0 : Int) ≤ (j : Int) := by omega
                have p2 : (j : Int) < (l.length : Int) := by omega
                have p3 : (j : Int) < (c.length : Int) := by omega
                have k0 : wr.cell? ⟨gc, j, none⟩ = some (.string c[j]) := ownsRow_cell hnr j _ (by rw [List.getElem?_map, List.getElem?_eq_getElem hjl]; rfl)
                have hjv : j < l.length := by omega
                have k1 : wr.cell? ⟨gv, j * 3, none⟩ = some (.int .i64 l[j].ty) := ownsRow_cell hvr (j * 3) _ (by have := flatV_at l j 0 hjv (by omega); rw [Nat.add_zero] at this; rw [this]; rfl)
                have k2 : wr.cell? ⟨gv, j * 3 + 1, none⟩ = some (.string l[j].s) := ownsRow_cell hvr (j * 3 + 1) _ (by rw [flatV_at l j 1 hjv (by omega)]; rfl)
                have k3 : wr.cell? ⟨gv, j * 3 + 2, none⟩ = some (.int .i64 l[j].n) := ownsRow_cell hvr (j * 3 + 2) _ (by rw [flatV_at l j 2 hjv (by omega)]; rfl)
                have y12 := (st18 hbr).2.2.2.2.2.2.2.2.2.2.2.2.1
                have u12 := blk_frozen0 hbr 12
                have hszr := hDr.size
                have z0 := blk_lt hbr
                have z1 : gc < wr.heap.size := cell_lt k0
                have z2 : gv < wr.heap.size := cell_lt k1
                have HX := Lib.hid (zip_snoc c l j hjl hjv)
                generalize c[j] = nm at *
                generalize l[j] = tm at *
                clear hjv
                go_wp2_with fail
                go_region_law (refine step_app Tryz.eltP rfl _ _ rfl w.heap.size _ _ _ rfl (hsr.alloc _) _ _ [.string nm, .int .i64 tm.ty, .string tm.s, .int .i64 tm.n] rfl rfl (fun j u hj => by rw [add_at, Nat.zero_add]; exact cells_last _ _ _ j u hj) (by intro u hu; simp at hu; rcases hu with rfl | rfl | rfl | rfl <;> rfl) (by omega) (by simp; omega) ?_; intro g3 cap3 w3 h3 hg3 hn3 hl3; have hb3 : w3.heap[w2.heap.size]? = some (.cells (stC { Sx.zero with kind := 5, of_ := o } vnil vnil (.slice a3 j c3) vnil vnil) 31 (0, 0)) := (hg3.block _ (blk_lt (blk_alloc hbr _)) (fun e => row_nblk hsr hbr (by decide) e.symm)).trans (blk_alloc hbr _); have y3 := (st18 hb3).2.2.2.2.2.2.2.2.2.2.2.2.1; have u3 := blk_frozen0 hb3 12)
                all_goals
                  have hg4 : (wr.alloc (.cells #[.string nm, .int .i64 tm.ty, .string tm.s, .int .i64 tm.n] 61)).grownBy w3 (Value.slice a3 j c3).ownBlock := ⟨hg3.os, hg3.tape, hg3.output, hg3.size, hg3.block⟩
                  have hap : ∀ {e : TypeId} {sz nn : Nat} {u : Value} {ys : List Value}, wr.ownsRow w.heap.size e sz u nn ys → 61 ≠ e → w3.ownsRow w.heap.size e sz u nn ys := fun hu hne => (rows_apart hsr hu hne).keep (hu.alloc _) hg4
                  have hD3 := (hDr.alloc _).grown hg4 (fun g hg2 => (hsr.lt g hg2).1)
                  rw [← HX.out] at h3
                  go_wp2_with fail
                  go_roundw
                  case rel => exact ⟨j + 1, some ⟨g3, 0, none⟩, cap3, by go_num, by omega, hD3.own hbx 12 _, put_sets hb3 _, row_set h3 hb3 (by decide) 12 _, row_set (hap hnr (by decide)) hb3 (by decide) 12 _, row_set (hap hvr (by decide)) hb3 (by decide) 12 _⟩
                  case measure => simp [intOf]; omega
              · have hje : j = c.length := by omega
                subst hje
                have HZ := zip_all c l (c.length) (by omega)
                have HZL := zip_len c l
                rw [HZ] at hsr
                clear HZ
                obtain ⟨Z, hZ⟩ : ∃ Z, List.zipWith Pr.mk c l = Z := ⟨_, rfl⟩
                rw [hZ] at hsr HZL
                obtain ⟨⟨xu, σu⟩, hu⟩ : ∃ r, K.X.using_ (K.X.must (K.X.fail σ2) [(⟨#[41]⟩ : ByteArray)]) true { Sx.zero with kind := 5, of_ := o, sets := Z } = r := ⟨_, rfl⟩
                have HU := Lib.hid (using_sl K.X _ _ _ _ _ hu)
                have hus := using_any hDr hbx (x := { Sx.zero with kind := 5, of_ := o, sets := Z }) hbr true
                rw [hu] at hus
                go_wp2_with fail
                refine hus.mono ?_; rintro e w40 ⟨rfl, hD40, hb40, hk40⟩
                have hs40 := hk40.row hsr hle hbr (by decide)
                have hBx := build_ch
                have hMx := mki_ch
                go_wp2_with (refine wpl_st rfl _ rfl rfl rfl hb40 ?_)
                go_ret
                have HE : Hid (K.X.insert σ = (xu, σu)) := by
                  show _ = _
                  have hi := HIF.out
                  unfold Tx.insert
                  simp only [hq1, hq2, hq3, hq4, hq5, hq6, hR, hi, hZ, hu]
                rw [HE.out]
                refine ⟨vnil, vnil, _, vnil, rfl, hD40, ?_⟩
                obtain ⟨u1, u2, rfl⟩ := HU.out
                refine ⟨World.ownsRow_nil _ _ _ _, World.ownsRow_nil _ _ _ _, ?_, World.ownsRow_nil _ _ _ _⟩
                show w40.ownsRow w.heap.size _ 4 _ Z.length (flatR Z)
                rw [show Z.length = c.length by omega]
                exact hs40
          · have q2 : (l.length : Int) < (c.length : Int) := by omega
            have q3 : ¬ (c.length : Int) ≤ (l.length : Int) := by omega
            have q4 : (l.length : Int) ≤ (cc : Int) := by omega
            go_wp2_with fail
            go_loopw [6, 7, 56] (fun _ _ i wr => ∃ (j : Nat) (a3 : Option Addr) (c3 : Nat), i = .int .i64 j ∧ j ≤ l.length ∧ Did K w (K.X.must (K.X.fail σ2) [(⟨#[41]⟩ : ByteArray)]) wr ∧ wr.heap[w2.heap.size]? = some (.cells (stC { Sx.zero with kind := 5, of_ := o } vnil vnil (.slice a3 j c3) vnil vnil) 31 (0, 0)) ∧ wr.ownsRow w.heap.size 61 4 (.slice a3 j c3) j (flatR (List.zipWith Pr.mk (c.take j) (l.take j))) ∧ wr.ownsRow w.heap.size 9 1 (.slice (some ⟨gc, 0, none⟩) c.length cc) c.length (c.map Value.string) ∧ wr.ownsRow w.heap.size 59 3 (.slice (some ⟨gv, 0, none⟩) l.length c2) l.length (flatV l)) (fun _ _ i _ => l.length - (intOf i).toNat)
            case atStart => exact ⟨0, none, 0, rfl, by omega, hD22, hbk22, World.ownsRow_nil _ _ _ _, hc22, hr22⟩
            case round =>
              obtain ⟨j, a3, c3, rfl, hj, hDr, hbr, hsr, hnr, hvr⟩ := hrel
              by_cases hjl0 : j < l.length
              · have p0 : (j : Int) < (l.length : Int) := by omega
                have hjl : j < c.length := by omega
                have p1 : (0 : Int) ≤ (j : Int) := by omega
                have p2 : (j : Int) < (l.length : Int) := by omega
                have p3 : (j : Int) < (c.length : Int) := by omega
                have k0 : wr.cell? ⟨gc, j, none⟩ = some (.string c[j]) := ownsRow_cell hnr j _ (by rw [List.getElem?_map, List.getElem?_eq_getElem hjl]; rfl)
                have hjv : j < l.length := by omega
                have k1 : wr.cell? ⟨gv, j * 3, none⟩ = some (.int .i64 l[j].ty) := ownsRow_cell hvr (j * 3) _ (by have := flatV_at l j 0 hjv (by omega); rw [Nat.add_zero] at this; rw [this]; rfl)
                have k2 : wr.cell? ⟨gv, j * 3 + 1, none⟩ = some (.string l[j].s) := ownsRow_cell hvr (j * 3 + 1) _ (by rw [flatV_at l j 1 hjv (by omega)]; rfl)
                have k3 : wr.cell? ⟨gv, j * 3 + 2, none⟩ = some (.int .i64 l[j].n) := ownsRow_cell hvr (j * 3 + 2) _ (by rw [flatV_at l j 2 hjv (by omega)]; rfl)
                have y12 := (st18 hbr).2.2.2.2.2.2.2.2.2.2.2.2.1
                have u12 := blk_frozen0 hbr 12
                have hszr := hDr.size
                have z0 := blk_lt hbr
                have z1 : gc < wr.heap.size := cell_lt k0
                have z2 : gv < wr.heap.size := cell_lt k1
                have HX := Lib.hid (zip_snoc c l j hjl hjv)
                generalize c[j] = nm at *
                generalize l[j] = tm at *
                clear hjv
                go_wp2_with fail
                go_region_law (refine step_app Tryz.eltP rfl _ _ rfl w.heap.size _ _ _ rfl (hsr.alloc _) _ _ [.string nm, .int .i64 tm.ty, .string tm.s, .int .i64 tm.n] rfl rfl (fun j u hj => by rw [add_at, Nat.zero_add]; exact cells_last _ _ _ j u hj) (by intro u hu; simp at hu; rcases hu with rfl | rfl | rfl | rfl <;> rfl) (by omega) (by simp; omega) ?_; intro g3 cap3 w3 h3 hg3 hn3 hl3; have hb3 : w3.heap[w2.heap.size]? = some (.cells (stC { Sx.zero with kind := 5, of_ := o } vnil vnil (.slice a3 j c3) vnil vnil) 31 (0, 0)) := (hg3.block _ (blk_lt (blk_alloc hbr _)) (fun e => row_nblk hsr hbr (by decide) e.symm)).trans (blk_alloc hbr _); have y3 := (st18 hb3).2.2.2.2.2.2.2.2.2.2.2.2.1; have u3 := blk_frozen0 hb3 12)
                all_goals
                  have hg4 : (wr.alloc (.cells #[.string nm, .int .i64 tm.ty, .string tm.s, .int .i64 tm.n] 61)).grownBy w3 (Value.slice a3 j c3).ownBlock := ⟨hg3.os, hg3.tape, hg3.output, hg3.size, hg3.block⟩
                  have hap : ∀ {e : TypeId} {sz nn : Nat} {u : Value} {ys : List Value}, wr.ownsRow w.heap.size e sz u nn ys → 61 ≠ e → w3.ownsRow w.heap.size e sz u nn ys := fun hu hne => (rows_apart hsr hu hne).keep (hu.alloc _) hg4
                  have hD3 := (hDr.alloc _).grown hg4 (fun g hg2 => (hsr.lt g hg2).1)
                  rw [← HX.out] at h3
                  go_wp2_with fail
                  go_roundw
                  case rel => exact ⟨j + 1, some ⟨g3, 0, none⟩, cap3, by go_num, by omega, hD3.own hbx 12 _, put_sets hb3 _, row_set h3 hb3 (by decide) 12 _, row_set (hap hnr (by decide)) hb3 (by decide) 12 _, row_set (hap hvr (by decide)) hb3 (by decide) 12 _⟩
                  case measure => simp [intOf]; omega
              · have hje : j = l.length := by omega
                subst hje
                have HZ := zip_all c l (l.length) (by omega)
                have HZL := zip_len c l
                rw [HZ] at hsr
                clear HZ
                obtain ⟨Z, hZ⟩ : ∃ Z, List.zipWith Pr.mk c l = Z := ⟨_, rfl⟩
                rw [hZ] at hsr HZL
                obtain ⟨⟨xu, σu⟩, hu⟩ : ∃ r, K.X.using_ (K.X.must (K.X.fail σ2) [(⟨#[41]⟩ : ByteArray)]) true { Sx.zero with kind := 5, of_ := o, sets := Z } = r := ⟨_, rfl⟩
                have HU := Lib.hid (using_sl K.X _ _ _ _ _ hu)
                have hus := using_any hDr hbx (x := { Sx.zero with kind := 5, of_ := o, sets := Z }) hbr true
                rw [hu] at hus
                go_wp2_with fail
                refine hus.mono ?_; rintro e w40 ⟨rfl, hD40, hb40, hk40⟩
                have hs40 := hk40.row hsr hle hbr (by decide)
                have hBx := build_ch
                have hMx := mki_ch
                go_wp2_with (refine wpl_st rfl _ rfl rfl rfl hb40 ?_)
                go_ret
                have HE : Hid (K.X.insert σ = (xu, σu)) := by
                  show _ = _
                  have hi := HIF.out
                  unfold Tx.insert
                  simp only [hq1, hq2, hq3, hq4, hq5, hq6, hR, hi, hZ, hu]
                rw [HE.out]
                refine ⟨vnil, vnil, _, vnil, rfl, hD40, ?_⟩
                obtain ⟨u1, u2, rfl⟩ := HU.out
                refine ⟨World.ownsRow_nil _ _ _ _, World.ownsRow_nil _ _ _ _, ?_, World.ownsRow_nil _ _ _ _⟩
                show w40.ownsRow w.heap.size _ 4 _ Z.length (flatR Z)
                rw [show Z.length = l.length by omega]
                exact hs40

end Go.Proofs.YtfbgdjcnlnfoaaaGreatDoor

namespace Go.Proofs.YtfbgdjcnlnfoaaaGreatDoor
open Go.RowKit
open Cle

theorem must1_i (X : Tx) (σ : Ps) (s : ByteArray) : σ.i ≤ (X.must σ [s]).i := by
  show σ.i ≤ (X.must1 σ s).i
  unfold Tx.must1
  split
  · show σ.i ≤ σ.i + 1; omega
  · show σ.i ≤ (σ.wrong _).i; rw [wrong_i]; exact Nat.le_refl _
def moreM (K : PK) (v : Value) (w : World) : Nat := match v with | .bool true => K.X.T.length - psI K w + 1 | _ => 0
theorem flatR_snoc (l : List Pr) (p : Pr) : flatR (l ++ [p]) = flatR l ++ prCells p := by simp [flatR]
theorem last_get (l : List ByteArray) (x : ByteArray) : (l ++ [x]).getLastD ⟨#[]⟩ = x := by simp
theorem column_last (X : Tx) (σ : Ps) (l : List ByteArray) (most : Nat) : ∃ x, (X.column σ l most).1 = l ++ [x] := ⟨_, rfl⟩

set_option maxRecDepth 100000 in
set_option maxHeartbeats 4000000 in
theorem update_any {K : PK} {w : World} {σ : Ps} (h : PQ K w σ) :
    Calls Tryz.prog 82 #[.pointer (some ⟨K.b, 0, none⟩)] w (GaveSt K w 156 (K.X.update σ).1 (K.X.update σ).2) := by
  have hle := h.le
  have hD0 := Did.refl h
  obtain ⟨⟨o, σ1⟩, hq1⟩ : ∃ r, K.X.name σ = r := ⟨_, rfl⟩
  obtain ⟨⟨xu, σ2⟩, hq2⟩ : ∃ r, K.X.using_ σ1 true { Sx.zero with kind := 6, of_ := o } = r := ⟨_, rfl⟩
  obtain ⟨σ3, hq3⟩ : ∃ r, K.X.must σ2 [(⟨#[115, 101, 116]⟩ : ByteArray)] = r := ⟨_, rfl⟩
  obtain ⟨⟨Zf, σf⟩, hR⟩ : ∃ r, K.X.setsF (K.X.T.length + 1) σ3 [] [] = r := ⟨_, rfl⟩
  obtain ⟨⟨q, σq⟩, hQ⟩ : ∃ r, K.X.wher σf true = r := ⟨_, rfl⟩
  have HU := Lib.hid (using_sl K.X _ _ _ _ _ hq2)
  have HE : Hid (K.X.update σ = ({ xu with sets := Zf, wher := q }, σq)) := by show _ = _; unfold Tx.update; simp only [hq1, hq2, hq3, hR, hQ]
  have HT := Lib.hid K.hT
  go_enter Tryz.func82, Tryz.ntmps82
  have hm1 := name_any hD0.1
  rw [hq1] at hm1
  try simp only at hm1
  go_wp2_with fail
  refine hm1.mono ?_; rintro e w1 ⟨rfl, hd1⟩
  have hD1 := hD0.trans hd1
  have hB2 := build_ko 6 o
  have hLx : K.L ≤ w1.heap.size := Nat.le_trans hle hD1.size
  have hbx : w.heap.size ≤ w1.heap.size := hD1.size
  have hblk2 : (w1.alloc (.cells (stC { Sx.zero with kind := 6, of_ := o } vnil vnil vnil vnil vnil) 31)).heap[w1.heap.size]? = some (.cells (stC { Sx.zero with kind := 6, of_ := o } vnil vnil vnil vnil vnil) 31 (0, 0)) := blk_new w1 _
  have hD2 := hD1.alloc (.cells (stC { Sx.zero with kind := 6, of_ := o } vnil vnil vnil vnil vnil) 31)
  have hm3 := using_any hD2 hbx (x := { Sx.zero with kind := 6, of_ := o }) hblk2 true
  rw [hq2] at hm3
  go_wp2_with (refine wpl_sto rfl _ _ rfl rfl rfl rfl rfl ?_)
  refine hm3.mono ?_; rintro e w3 ⟨rfl, hD3, hblk3, hk3⟩
  have hm4 := must1 hD3.1 (⟨#[115, 101, 116]⟩ : ByteArray)
  rw [hq3] at hm4
  try simp only [sz_alloc, sz_set] at hm4
  go_wp2_with fail
  refine hm4.mono ?_; rintro e w4 ⟨rfl, hd4⟩
  have hD4 := hD3.trans hd4
  have hblk4 := hd4.blk hblk3 hLx
  go_wp2_with fail
  go_loopw [4, 5] (fun names more wr => ∃ (mb : Bool) (l : List ByteArray) (a : Option Addr) (c : Nat) (Z : List Pr) (a3 : Option Addr) (c3 : Nat) (σ2 : Ps) (n : Nat), more = .bool mb ∧ names = .slice a l.length c ∧ Did K w σ2 wr ∧ wr.heap[w1.heap.size]? = some (.cells (stC xu vnil vnil (.slice a3 Z.length c3) vnil vnil) 31 (0, 0)) ∧ wr.ownsRow w.heap.size 61 4 (.slice a3 Z.length c3) Z.length (flatR Z) ∧ wr.ownsRow w.heap.size 9 1 (.slice a l.length c) l.length (l.map Value.string) ∧ Hid ((if mb then K.X.setsF n σ2 l Z else (Z, σ2)) = (Zf, σf)) ∧ (mb = true → K.X.T.length - σ2.i < n) ∧ l.length + n ≤ K.X.T.length + 1 ∧ Hid (Z.length = l.length)) (fun _ more wr => moreM K more wr)
  case atStart => exact ⟨true, [], none, 0, [], none, 0, σ3, K.X.T.length + 1, rfl, rfl, hD4, hblk4, World.ownsRow_nil _ _ _ _, World.ownsRow_nil _ _ _ _, hR, fun _ => by omega, by simp, rfl⟩
  case round =>
    obtain ⟨mb, l, a, c, Z, a3, c3, σ2, n, rfl, rfl, hD, hb, hs, hnr, HR, hn, hln, hZl⟩ := hrel
    have hT := HT.out
    have hpI := psI_eq hD.1
    have hsz := hD.size
    cases mb with
    | false =>
      have HR2 : (Z, σ2) = (Zf, σf) := HR.out
      cases HR2
      have hw := where_any hD.1 true
      rw [hQ] at hw
      go_wp2_with fail
      refine hw.mono ?_; rintro e w20 ⟨aq, cq, rfl, hd20, hq20⟩
      have hD20 := hD.trans hd20
      have hb20 := hd20.blk hb hLx
      have hs20 := hd20.row hs hle
      replace hq20 := ownsRow_mono hq20 hsz
      have y20 := (st18 hb20).2.2.2.2.2.2.2.2.2.2.2.2.2.1
      have u20 := blk_frozen0 hb20 13
      have hb21 := put_wher hb20 (.slice aq q.length cq)
      have hBx := build_ch
      have hMx := mki_ch
      go_wp2_with (refine wpl_st rfl _ rfl rfl rfl hb21 ?_)
      go_ret
      rw [HE.out]
      refine ⟨vnil, vnil, _, _, rfl, hD20.own hbx 13 _, ?_⟩
      obtain ⟨u1, u2, rfl⟩ := HU.out
      exact ⟨World.ownsRow_nil _ _ _ _, World.ownsRow_nil _ _ _ _, row_set hs20 hb20 (by decide) 13 _, row_set hq20 hb20 (by decide) 13 _⟩
    | true =>
      have hnn := hn rfl
      clear hn
      obtain ⟨n, rfl⟩ : ∃ m, n = m + 1 := ⟨n - 1, by omega⟩
      have hcol := column_any hD w.heap.size (Nat.le_refl _) hsz _ l 8 hnr (by omega) (by omega)
      have hi1 := column_i K.X σ2 l 8
      obtain ⟨nm, hnm⟩ := column_last K.X σ2 l 8
      obtain ⟨⟨l3, σ3⟩, hc3⟩ : ∃ r, K.X.column σ2 l 8 = r := ⟨_, rfl⟩
      rw [hc3] at hcol hi1 hnm
      replace hnm : l3 = l ++ [nm] := hnm
      replace hi1 : σ2.i ≤ σ3.i := hi1
      subst hnm
      have hi2 := must1_i K.X σ3 (⟨#[61]⟩ : ByteArray)
      obtain ⟨σ4, h4⟩ : ∃ r, K.X.must σ3 [(⟨#[61]⟩ : ByteArray)] = r := ⟨_, rfl⟩
      rw [h4] at hi2
      have hi3 := value_i K.X σ4
      obtain ⟨⟨t, σ5⟩, hv4⟩ : ∃ r, K.X.value σ4 = r := ⟨_, rfl⟩
      rw [hv4] at hi3
      replace hi3 : σ4.i ≤ σ5.i := hi3
      have HR2 : Hid ((if K.X.sees σ5 (⟨#[44]⟩ : ByteArray) then K.X.setsF n σ5.step (l ++ [nm]) (Z ++ [⟨nm, t⟩]) else (Z ++ [⟨nm, t⟩], σ5)) = (Zf, σf)) := by
        have h := HR.out
        rw [if_pos rfl, Tx.setsF] at h
        simp only [hc3, h4, hv4, last_get] at h
        exact Lib.hid h
      go_wp2_with fail
      refine hcol.mono ?_; rintro e w21 ⟨a2, c2, rfl, hD21, hn21, hel⟩
      have hb21 := hel.1 _ _ hLx (row_nblk hnr hb (by decide)) hb
      have hs21 := hel.row (rows_apart hnr hs (by decide)) hs hle
      have hm22 := must1 hD21.1 (⟨#[61]⟩ : ByteArray)
      rw [h4] at hm22
      go_wp2_with fail
      refine hm22.mono ?_; rintro e w22 ⟨rfl, hd22⟩
      have hD22 := hD21.trans hd22
      have hb22 := hd22.blk hb21 hLx
      have hs22 := hd22.row hs21 hle
      have hn22 := hd22.row hn21 hle
      obtain ⟨_, _, hsl, hgn⟩ := row_read hn22
      cases hsl
      obtain ⟨gn, rfl, _, hgnl, _⟩ := hgn (by omega)
      have k22 := ownsRow_cell hn22 l.length (.string nm) (by simp)
      have y22 := (st18 hb22).2.2.2.2.2.2.2.2.2.2.2.2.1
      have z22 := blk_lt hb22
      have p0 : IntKind.i64.wrap (((l.length + 1 : Nat) : Int) - 1) = (l.length : Int) := by rw [IntWalk.i64_in _ (by omega)]; omega
      have p0' : IntKind.i64.wrap (((l.length : Int) + 1) - 1) = (l.length : Int) := by rw [IntWalk.i64_in _ (by omega)]; omega
      have p3 : IntKind.i64.wrap (l.length : Int) = (l.length : Int) := IntWalk.i64_in _ (by omega)
      have p1 : (0 : Int) ≤ (l.length : Int) := by omega
      have p2 : (l.length : Int) < ((l.length + 1 : Nat) : Int) := by omega
      have p2' : (l.length : Int) < (l.length : Int) + 1 := by omega
      have hZb : Z.length ≤ 100001 := by have := hZl.out; omega
      go_wp2_with fail
      go_region_law (first | (refine step_app Tryz.eltP rfl _ _ rfl w.heap.size _ _ _ rfl (hs30.alloc _) _ _ [.string nm, .int .i64 t.ty, .string t.s, .int .i64 t.n] rfl rfl (fun j u hj => by rw [add_at, Nat.zero_add]; exact cells_last _ _ _ j u hj) (by intro u hu; simp at hu; rcases hu with rfl | rfl | rfl | rfl <;> rfl) (by omega) (by simp; omega) ?_; intro g3 cap3 w3 h3 hg3 hn3 hl3; have hb3 : w3.heap[w1.heap.size]? = some (.cells (stC xu vnil vnil (.slice a3 Z.length c3) vnil vnil) 31 (0, 0)) := (hg3.block _ (blk_lt (blk_alloc hb30 _)) (fun e => row_nblk hs30 hb30 (by decide) e.symm)).trans (blk_alloc hb30 _); have y3 := (st18 hb3).2.2.2.2.2.2.2.2.2.2.2.2.1; have u3 := blk_frozen0 hb3 12) | (go_simp; go_at_call 127; refine (value_b (K := K) (σ := σ4) (hD22.drewN 1).1 hv4).mono ?_; rintro e w30 ⟨rfl, hd30⟩; have hb30 := hd30.blk hb22 hLx; have hs30 := hd30.row hs22 hle; have hn30 := hd30.row hn22 hle; have hD30 := (hD22.drewN 1).trans hd30; have y30 := (st18 hb30).2.2.2.2.2.2.2.2.2.2.2.2.1; have u30 := blk_frozen0 hb30 12; have k30 := ownsRow_cell hn30 l.length (.string nm) (by simp); have z30 := blk_lt hb30; have zz30 := cell_lt k30; have hs30z := hD30.size))
      all_goals
        have hg4 : (w30.alloc (.cells #[.string nm, .int .i64 t.ty, .string t.s, .int .i64 t.n] 61)).grownBy w3 (Value.slice a3 Z.length c3).ownBlock := ⟨hg3.os, hg3.tape, hg3.output, hg3.size, hg3.block⟩
        have hD4 := ((hD30.alloc _).grown hg4 (fun g hg2 => (hs30.lt g hg2).1)).own hbx 12 (.slice (some ⟨g3, 0, none⟩) (Z.length + 1) cap3)
        have hb4 := put_sets hb3 (.slice (some ⟨g3, 0, none⟩) (Z.length + 1) cap3)
        have hs4 := row_set h3 hb3 (by decide) 12 (.slice (some ⟨g3, 0, none⟩) (Z.length + 1) cap3)
        have hn4 := row_set ((rows_apart hs30 hn30 (by decide)).keep (hn30.alloc _) hg4) hb3 (by decide) 12 (.slice (some ⟨g3, 0, none⟩) (Z.length + 1) cap3)
        have hmay := may_any hD4.1 (⟨#[44]⟩ : ByteArray)
        unfold Tx.may at hmay
        cases hse : K.X.sees σ5 (⟨#[44]⟩ : ByteArray) with
        | true =>
          rw [hse, if_pos rfl] at hmay
          obtain ⟨hlt, _⟩ := sees_lt hse
          go_wp2_with fail
          refine hmay.mono ?_; rintro e w6 ⟨rfl, hd6⟩
          have hD6 := hD4.trans hd6
          have hb6 := hd6.blk hb4 hLx
          have hs6 := hd6.row hs4 hle
          have hn6 := hd6.row hn4 hle
          have hp6 := psI_eq hD6.1
          have hst : σ5.step.i = σ5.i + 1 := rfl
          go_wp2_with fail
          go_roundw
          case rel =>
            refine ⟨true, l ++ [nm], some ⟨gn, 0, none⟩, c2, Z ++ [⟨nm, t⟩], some ⟨g3, 0, none⟩, cap3, σ5.step, n, rfl, by rw [List.length_append]; rfl, hD6, by rw [List.length_append]; exact hb6, ?_, ?_, ?_, (fun _ => by omega), by rw [List.length_append]; show l.length + 1 + n ≤ _; omega, by show _ = _; rw [List.length_append, List.length_append, hZl.out]; rfl⟩
            · rw [List.length_append, flatR_snoc]; exact hs6
            · rw [List.length_append]; exact hn6
            · have h := HR2.out; rw [hse, if_pos rfl] at h; show _ = _; rw [if_pos rfl]; exact h
          case measure =>
            show K.X.T.length - psI K w6 + 1 < K.X.T.length - psI K wr + 1
            rw [hp6, hpI]; omega
        | false =>
          rw [hse, if_neg (by decide)] at hmay
          go_wp2_with fail
          refine hmay.mono ?_; rintro e w6 ⟨rfl, hd6⟩
          have hD6 := hD4.trans hd6
          have hb6 := hd6.blk hb4 hLx
          have hs6 := hd6.row hs4 hle
          have hn6 := hd6.row hn4 hle
          go_wp2_with fail
          go_roundw
          case rel =>
            refine ⟨false, l ++ [nm], some ⟨gn, 0, none⟩, c2, Z ++ [⟨nm, t⟩], some ⟨g3, 0, none⟩, cap3, σ5, n, rfl, by rw [List.length_append]; rfl, hD6, by rw [List.length_append]; exact hb6, ?_, ?_, ?_, (fun h => absurd h (by decide)), by rw [List.length_append]; show l.length + 1 + n ≤ _; omega, by show _ = _; rw [List.length_append, List.length_append, hZl.out]; rfl⟩
            · rw [List.length_append, flatR_snoc]; exact hs6
            · rw [List.length_append]; exact hn6
            · have h := HR2.out; rw [hse, if_neg (by decide)] at h; show _ = _; rw [if_neg (by decide)]; exact h
          case measure =>
            show 0 < K.X.T.length - psI K wr + 1
            omega

end Go.Proofs.YtfbgdjcnlnfoaaaGreatDoor

