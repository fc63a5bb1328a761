/- Rows that grow, several of them: of no program. -/
import Derived.Test.YtljoenpgokhekaaDoorKitB
namespace Go.Proofs.YtljoenpgokhekaaDoor
open Go.RowKit
namespace Cle

/-- A slice's type: its element's zero value, cells, bytes. -/
structure Elt (P : Program) (t e : TypeId) (z : Value) (size bytes : Nat) : Prop where
  und : P.underlying t = some (.slice e)
  info : ∃ i, P.info? e = some i ∧ i.zero = some z ∧ i.size = size ∧ i.bytes = bytes
  zs : z.cells.size = size
  pos : 0 < size
theorem elt_of {P : Program} {t e : TypeId} {z : Value} {size bytes : Nat} (h1 : P.underlying t = some (.slice e)) (h2 : (P.info? e).map (fun i => (i.zero, i.size, i.bytes)) = some (some z, size, bytes)) (h3 : z.cells.size = size) (h4 : 0 < size) : Elt P t e z size bytes := by
  refine ⟨h1, ?_, h3, h4⟩
  cases hi : P.info? e with
  | none => rw [hi] at h2; cases h2
  | some i =>
    rw [hi] at h2
    simp only [Option.map_some, Option.some.injEq, Prod.mk.injEq] at h2
    exact ⟨i, rfl, h2.1, h2.2.1, h2.2.2⟩

/-- Where a row lies behind an append: where it lay, or in new memory. -/
def Near (w : World) (v v' : Value) : Prop := ∀ g, v'.ownBlock = some g → v.ownBlock = some g ∨ w.heap.size ≤ g

theorem run_app {P : Program} {w : World} {base : Nat} {t ty e : TypeId} {z : Value} {size bytes : Nat} (E : Elt P t e z size bytes) (v : Value) (n : Nat) (xs : List Value) (hown : w.ownsRow base e size v n xs)
    (a : Addr) (m c : Nat) (news : List Value) (hl : news.length = m * size) (hnews : ∀ j u, news[j]? = some u → w.cell? (a.add j) = some u) (h1 : ∀ u ∈ news, u.oneCell' = true)
    (h63 : n + m ≤ maxLen) (hbytes : (n + m) * bytes ≤ 140737488355328) (hbase : base ≤ w.heap.size) (hm : 0 < m) :
    ∃ v' w', (Builtin.append_ #[t, t] ty #[v, .slice (some a) m c]).run P w = .ok v' w' ∧ w'.ownsRow base e size v' (n + m) (xs ++ news) ∧ w.grownBy w' v.ownBlock ∧ Near w v v' := by
  obtain ⟨i, hi, hz, hsize, hby⟩ := E.info
  have hmax : n + m ≤ 9223372036854775807 := Nat.le_trans h63 (by decide)
  have hold := hown
  rcases hown.2 with ⟨rfl, hn0⟩ | ⟨g, cap, cur, rfl, hbg, hg, hnc, hcm, hcs, htake⟩
  · obtain ⟨v', w', hr, h2, h3, _⟩ := run_append_own (P := P) w base t ty e i z size bytes E.und hi hz hsize hby E.zs E.pos _ n xs hold a m c news hl hnews h1 h63 hbytes hbase
    refine ⟨v', w', hr, h2, h3, ?_⟩
    obtain ⟨v2, w2, hr2, h22, _, _⟩ := run_append_own (P := P) w w.heap.size t ty e i z size bytes E.und hi hz hsize hby E.zs E.pos (.slice none 0 0) n xs ⟨hold.1, .inl ⟨rfl, hn0⟩⟩ a m c news hl hnews h1 h63 hbytes (Nat.le_refl _)
    rw [hr] at hr2
    cases hr2
    exact fun k hk => .inr (h22.lt k hk).1
  · obtain ⟨v', w', hr, h2, h3, _⟩ := run_append_own (P := P) w base t ty e i z size bytes E.und hi hz hsize hby E.zs E.pos _ n xs hold a m c news hl hnews h1 h63 hbytes hbase
    refine ⟨v', w', hr, h2, h3, ?_⟩
    by_cases hroom : n + m ≤ cap
    · have hfit : n * i.size + news.length ≤ cur.size := by rw [hl, hcs, hsize, ← Nat.add_mul]; exact Nat.mul_le_mul_right _ hroom
      have hr2 := run_append_room (P := P) w t ty e i E.und hi g n cap cur hg a m c news (by rw [hsize]; exact hl) hnews h1 hroom hfit
      rw [hr] at hr2
      cases hr2
      exact fun k hk => .inl hk
    · have holds : ∀ j u, xs[j]? = some u → w.cell? ((⟨g, 0, none⟩ : Addr).add j) = some u := hold.cells (g := g) rfl
      have hr2 := run_append_grow (P := P) w t ty e i z E.und hi hz ⟨g, 0, none⟩ n cap xs (by rw [hsize]; exact hold.1) holds a m c news (by rw [hsize]; exact hl) hnews (by omega) (by omega) (growslice_fits (by omega) (by rw [hby]; exact hbytes))
      rw [hr] at hr2
      cases hr2
      intro k hk
      right
      cases hk
      exact Nat.le_refl _

/-- One element more, behind a row that is owned. -/
theorem app1 {P : Program} {t e : TypeId} {z : Value} {size bytes : Nat} (E : Elt P t e z size bytes) {w : World} {ops : Array Oper} {rest : List Oper} {o : Oper} {a : Act} {Q : Exit → Act → World → Prop} (hgd : o.guard = none) (s x : Operand)
    (ho : o.op = .call { callee := .builtin .append, args := #[s, x], argTypes := #[t, t] })
    (base : Nat) (v : Value) (n : Nat) (xs : List Value) (hs : a.eval s = v) (hown : w.ownsRow base e size v n xs)
    (k c : Nat) (news : List Value) (hx : a.eval x = .slice (some ⟨k, 0, none⟩) 1 c) (hl : news.length = size) (hnews : ∀ j u, news[j]? = some u → w.cell? ⟨k, j, none⟩ = some u) (h1 : ∀ u ∈ news, u.oneCell' = true)
    (hn : (n + 1) * bytes ≤ 140737488355328 ∧ n < 140737488355328) (hbase : base ≤ w.heap.size)
    (h : ∀ a' cap' w', w'.ownsRow base e size (.slice a' (n + 1) cap') (n + 1) (xs ++ news) → w.grownBy w' v.ownBlock → Near w v (.slice a' (n + 1) cap') → wpList P ops Q rest (a.put o.dst (.slice a' (n + 1) cap')) w') : wpList P ops Q (o :: rest) a w := by
  refine wpList_plain hgd fun K hK => ?_
  obtain ⟨v', w', hr, h2, h3, h4⟩ := run_app (P := P) (ty := o.type) E v n xs hown ⟨k, 0, none⟩ 1 c news (by rw [Nat.one_mul]; exact hl) (fun j u hj => by rw [add_at, Nat.zero_add]; exact hnews j u hj) h1 (by have := hn.2; unfold maxLen; omega) hn.1 hbase (by omega)
  obtain ⟨a', cap', rfl, _⟩ := row_read h2
  unfold Oper.wp execOp
  simp only [ho, resolve, invoke, builtin, Sem.run_bind, Sem.run_pure, Result.andThen_ok, List.map_toArray, List.map_cons, List.map_nil, hs, hx, hr]
  exact hK _ _ (h a' cap' w' h2 h3 h4)

/-- Two rows that share nothing. -/
def Apart (v u : Value) : Prop := ∀ g, v.ownBlock = some g → u.ownBlock ≠ some g
theorem Apart.symm {v u : Value} (h : Apart v u) : Apart u v := fun g hu hv => h g hv hu
theorem apart_nil {u : Value} {n c : Nat} : Apart (.slice none n c) u := fun g h => by cases h
theorem nil_apart {u : Value} {n c : Nat} : Apart u (.slice none n c) := apart_nil.symm
/-- A row that is not the one that grew. -/
theorem Apart.keep {w w' : World} {v u : Value} (h : Apart v u) {base : Nat} {e : TypeId} {size n : Nat} {xs : List Value} (hu : w.ownsRow base e size u n xs) (hg : w.grownBy w' v.ownBlock) : w'.ownsRow base e size u n xs :=
  hu.kept hg (by
    cases hx : u.ownBlock with
    | none => exact .inl rfl
    | some g => exact .inr fun e => h g e.symm hx)
/-- What has grown is apart from what was apart. -/
theorem Apart.near {w : World} {v v' u : Value} (h : Apart v u) (hn : Near w v v') {base : Nat} {e : TypeId} {size n : Nat} {xs : List Value} (hu : w.ownsRow base e size u n xs) : Apart v' u := by
  intro g hv hg
  rcases hn g hv with h1 | h1
  · exact h g h1 hg
  · have := (hu.lt g hg).2; omega
theorem Apart.blk {w : World} {v : Value} {base : Nat} {e : TypeId} {size n : Nat} {xs : List Value} (hv : w.ownsRow base e size v n xs) {k : Nat} (hk : k < base) : v.ownBlock ≠ some k := fun h => by have := (hv.lt k h).1; omega
/-- Below the rows nothing is turned. -/
theorem below_app {w0 w w' : World} {B : Nat} {v : Value} (hb : Below B w0 w) (hB : B ≤ w.heap.size) (hg : w.grownBy w' v.ownBlock) (hv : ∀ g, v.ownBlock = some g → B ≤ g) : Below B w0 w' :=
  hb.grown hg hB hv
theorem cells_last (w : World) (L : List Value) (t : TypeId) : ∀ j u, L[j]? = some u → (w.alloc (.cells L.toArray t)).cell? ⟨w.heap.size, j, none⟩ = some u := by
  intro j u hj
  rw [blk_cell (blk_new w _)]
  simpa using hj

end Cle
end Go.Proofs.YtljoenpgokhekaaDoor
