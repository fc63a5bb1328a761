/- Parts of the proof, joined: PlainPC PlainPD PlainS PlainT PlainU. -/
import Derived.WalkKit
import Derived.Test.YtfbgdjcnlnfoaaaGreatDoorB06
namespace Go.Proofs.YtfbgdjcnlnfoaaaGreatDoor
namespace Cle

section
variable {X : Tx}
def colT (c : Cl) : List To := [tokN c.name, kindT c.ty, tokW (⟨#[44]⟩ : ByteArray)]
def colOK (c : Cl) : Prop := nameOK c.name ∧ (c.ty = 1 ∨ c.ty = 2)
theorem tableF_bad {σ : Ps} (h : σ.bad ≠ none) (n : Nat) (l : List ByteArray) (C : List Cl) : X.tableF n σ l C = (l, C, σ) := by
  cases n with
  | zero => rfl
  | succ n =>
    rw [Tx.tableF]
    cases hb : σ.bad with
    | none => exact absurd hb h
    | some a => simp
theorem tableF_con (hX : X.Ok) : ∀ n σ l C, C.map Cl.name = l → l.length ≤ 10 → (X.F.drop σ.i).length < n → (X.tableF n σ l C).2.2.bad = none →
    ∃ D : List Cl, (X.tableF n σ l C).1 = l ++ D.map Cl.name ∧ (X.tableF n σ l C).2.1 = C ++ D ∧ Con X σ (D.flatMap colT ++ [tokW (⟨#[112, 114, 105, 109, 97, 114, 121]⟩ : ByteArray)]) (X.tableF n σ l C).2.2 ∧ (∀ c ∈ D, colOK c) ∧ distF l (D.map Cl.name) ∧ (l ++ D.map Cl.name).length ≤ 10
  | 0, σ, l, C, _, _, hn, _ => absurd hn (by omega)
  | n + 1, σ, l, C, hl, hl10, hn, h => by
    cases hb : σ.bad with
    | some a =>
      exfalso
      rw [tableF_bad (by rw [hb]; simp)] at h
      simp only at h
      rw [hb] at h; exact absurd h (by simp)
    | none =>
      rw [Tx.tableF, hb] at h ⊢
      simp only [Option.isSome_none, Bool.false_eq_true, if_false] at h ⊢
      split at h
      · rename_i hs
        rw [if_pos hs]
        exact ⟨[], by simp, by simp, may_con hX hs, by simp, trivial, by simpa using hl10⟩
      · rename_i hs
        rw [if_neg hs]
        obtain ⟨⟨l1, σ1⟩, hc⟩ : ∃ r, X.column σ l 10 = r := ⟨_, rfl⟩
        obtain ⟨⟨ty, σ2⟩, hk⟩ : ∃ r, X.kind σ1 = r := ⟨_, rfl⟩
        obtain ⟨σ3, h3⟩ : ∃ r, X.must σ2 [(⟨#[44]⟩ : ByteArray)] = r := ⟨_, rfl⟩
        simp only [hc, hk, h3] at h ⊢
        have hb3 : σ3.bad = none := by
          cases hb3 : σ3.bad with
          | none => rfl
          | some a =>
            rw [tableF_bad (by rw [hb3]; simp)] at h
            simp only at h
            rw [hb3] at h; exact absurd h (by simp)
        have c3 := must_con hX [(⟨#[44]⟩ : ByteArray)] (σ := σ2) (by rw [h3]; exact hb3)
        rw [h3] at c3
        have c2 := kind_con hX (σ := σ1) (by rw [hk]; exact c3.1)
        rw [hk] at c2
        simp only at c2
        have hcb : (X.column σ l 10).2.bad = none := by rw [hc]; exact c2.1.1
        obtain ⟨s, g1, g2, g3, g4, g5⟩ := column_con hX hcb
        rw [hc] at g1 g2
        simp only at g1 g2
        subst g1
        have hcc := (g2.trans c2.1).trans c3
        have hlen := congrArg List.length hcc.2
        simp only [List.length_append, List.length_cons, List.length_nil, List.length_map] at hlen
        obtain ⟨D, e1, e2, e3, e4, e5, e6⟩ := tableF_con hX n σ3 (l ++ [s]) (C ++ [⟨(l ++ [s]).getLastD ⟨#[]⟩, ty⟩]) (by rw [List.map_append, hl]; simp) (by simp; omega) (by omega) h
        have hlast : (l ++ [s]).getLastD ⟨#[]⟩ = s := by simp
        rw [hlast] at e1 e2 e3 h ⊢
        refine ⟨⟨s, ty⟩ :: D, by rw [e1]; simp, by rw [e2]; simp, ?_, ?_, ⟨g4, e5⟩, by simpa using e6⟩
        · have := hcc.trans e3
          simpa [colT] using this
        · intro c hcm
          rcases List.mem_cons.1 hcm with rfl | hcm
          · exact ⟨g3, c2.2⟩
          · exact e4 c hcm
def tableT (nm : ByteArray) (C : List Cl) (pk ck : ByteArray) : List To :=
  [tokN nm, tokW (⟨#[40]⟩ : ByteArray)] ++ C.flatMap colT ++ [tokW (⟨#[112, 114, 105, 109, 97, 114, 121]⟩ : ByteArray), tokW (⟨#[107, 101, 121]⟩ : ByteArray), tokW (⟨#[40]⟩ : ByteArray), tokN pk, tokW (⟨#[44]⟩ : ByteArray), tokN ck, tokW (⟨#[41]⟩ : ByteArray), tokW (⟨#[41]⟩ : ByteArray)]
def tableX (nm : ByteArray) (C : List Cl) (pk ck : ByteArray) : Sx := C.foldl (fun x c => Tx.place x pk ck c) { Sx.zero with kind := 1, name := nm, tname := nm }
def tableOK (nm : ByteArray) (C : List Cl) (pk ck : ByteArray) : Prop := nameOK nm ∧ (∀ c ∈ C, colOK c) ∧ distF [] (C.map Cl.name) ∧ C.length ≤ 10 ∧ pk ∈ C.map Cl.name ∧ ck ∈ C.map Cl.name ∧ ck ≠ pk
theorem F_len (i : Nat) : (X.F.drop i).length ≤ X.T.length := by
  rw [List.length_drop]; unfold Tx.F; rw [List.length_map]; omega
theorem fuel_ok (σ : Ps) : (X.F.drop σ.i).length < X.T.length + 1 := Nat.lt_succ_of_le (F_len _)
theorem table_con (hX : X.Ok) {σ : Ps} (h : (X.table σ).2.bad = none) :
    ∃ nm C pk ck, (X.table σ).1 = tableX nm C pk ck ∧ Con X σ (tableT nm C pk ck) (X.table σ).2 ∧ tableOK nm C pk ck := by
  unfold Tx.table at h ⊢
  obtain ⟨⟨nm, σ0⟩, g0⟩ : ∃ r, X.name σ = r := ⟨_, rfl⟩
  obtain ⟨σ1, g1⟩ : ∃ r, X.must σ0 [(⟨#[40]⟩ : ByteArray)] = r := ⟨_, rfl⟩
  obtain ⟨⟨l, C, σ2⟩, g2⟩ : ∃ r, X.tableF (X.T.length + 1) σ1 [] [] = r := ⟨_, rfl⟩
  obtain ⟨σ3, g3⟩ : ∃ r, X.must σ2 [(⟨#[107, 101, 121]⟩ : ByteArray), (⟨#[40]⟩ : ByteArray)] = r := ⟨_, rfl⟩
  obtain ⟨⟨pk, σ4⟩, g4⟩ : ∃ r, X.one σ3 l ⟨#[]⟩ = r := ⟨_, rfl⟩
  obtain ⟨σ5, g5⟩ : ∃ r, X.must σ4 [(⟨#[44]⟩ : ByteArray)] = r := ⟨_, rfl⟩
  obtain ⟨⟨ck, σ6⟩, g6⟩ : ∃ r, X.one σ5 l pk = r := ⟨_, rfl⟩
  simp only [g0, g1, g2, g3, g4, g5, g6] at h ⊢
  have c7 := must_con hX _ h
  obtain ⟨c6, n6, m6, d6⟩ := one_con hX (by rw [g6]; exact c7.1)
  rw [g6] at c6 n6 m6 d6
  have c5 := must_con hX _ (by rw [g5]; exact c6.1)
  rw [g5] at c5
  obtain ⟨c4, n4, m4, d4⟩ := one_con hX (by rw [g4]; exact c5.1)
  rw [g4] at c4 n4 m4 d4
  have c3 := must_con hX _ (by rw [g3]; exact c4.1)
  rw [g3] at c3
  obtain ⟨D, e1, e2, e3, e4, e5, e6⟩ := tableF_con hX (X.T.length + 1) σ1 [] [] rfl (Nat.zero_le _) (fuel_ok _) (by rw [g2]; exact c3.1)
  rw [g2] at e1 e2 e3
  have c1 := must_con hX _ (by rw [g1]; exact e3.1)
  rw [g1] at c1
  obtain ⟨c0, n0⟩ := name_con hX (by rw [g0]; exact c1.1)
  rw [g0] at c0 n0
  simp only [List.nil_append] at e1 e2 e6
  subst e2
  simp only at m4 m6
  rw [e1] at m4 m6
  refine ⟨nm, C, pk, ck, rfl, ?_, n0, e4, e5, by simpa using e6, m4, m6, d6⟩
  have := ((((((c0.trans c1).trans e3).trans c3).trans c4).trans c5).trans c6).trans c7
  unfold tableT
  simpa using this
def viewT (nm : ByteArray) (cols : List ByteArray) (o on p q : ByteArray) : List To :=
  [tokW (⟨#[118, 105, 101, 119]⟩ : ByteArray), tokN nm, tokW (⟨#[97, 115]⟩ : ByteArray), tokW (⟨#[115, 101, 108, 101, 99, 116]⟩ : ByteArray)] ++ someT cols ++ [tokW (⟨#[102, 114, 111, 109]⟩ : ByteArray), tokN o, tokW (⟨#[119, 104, 101, 114, 101]⟩ : ByteArray), tokN on, tokW (⟨#[105, 115]⟩ : ByteArray), tokW (⟨#[110, 111, 116]⟩ : ByteArray), tokW (⟨#[110, 117, 108, 108]⟩ : ByteArray), tokW (⟨#[112, 114, 105, 109, 97, 114, 121]⟩ : ByteArray), tokW (⟨#[107, 101, 121]⟩ : ByteArray), tokW (⟨#[40]⟩ : ByteArray), tokN on, tokW (⟨#[44]⟩ : ByteArray), tokN p, tokW (⟨#[44]⟩ : ByteArray), tokN q, tokW (⟨#[41]⟩ : ByteArray)]
def viewX (nm : ByteArray) (cols : List ByteArray) (o on p q : ByteArray) : Sx := { Sx.zero with kind := 2, name := nm, cols := cols, of_ := o, on := on, wher := [⟨p, Tm.zero⟩, ⟨q, Tm.zero⟩] }
def viewOK (nm : ByteArray) (cols : List ByteArray) (o on p q : ByteArray) : Prop := nameOK nm ∧ colsOK 8 cols ∧ nameOK o ∧ nameOK on ∧ nameOK p ∧ nameOK q
theorem view_con (hX : X.Ok) {σ : Ps} (h : (X.view σ).2.bad = none) :
    ∃ nm cols o on p q, (X.view σ).1 = viewX nm cols o on p q ∧ Con X σ (viewT nm cols o on p q) (X.view σ).2 ∧ viewOK nm cols o on p q := by
  unfold Tx.view at h ⊢
  simp only at h ⊢
  have c1 := must_con hX _ h
  obtain ⟨c2, n2⟩ := name_con hX c1.1
  have c3 := must_con hX _ c2.1
  obtain ⟨c4, n4⟩ := name_con hX c3.1
  have c5 := must_con hX _ c4.1
  obtain ⟨c6, n6, m6, d6⟩ := one_con hX c5.1
  have c7 := must_con hX _ c6.1
  obtain ⟨c8, n8⟩ := name_con hX c7.1
  have c9 := must_con hX _ c8.1
  obtain ⟨c10, n10⟩ := name_con hX c9.1
  have c11 := must_con hX _ c10.1
  obtain ⟨c12, n12⟩ := some_con hX c11.1
  have c13 := must_con hX _ c12.1
  obtain ⟨c14, n14⟩ := name_con hX c13.1
  have c15 := must_con hX _ c14.1
  simp only [List.mem_cons, List.not_mem_nil, or_false] at m6
  rw [m6] at c6
  refine ⟨_, _, _, _, _, _, rfl, ?_, n14, n12, n10, n8, n4, n2⟩
  have := (((((((((((((c15.trans c14).trans c13).trans c12).trans c11).trans c10).trans c9).trans c8).trans c7).trans c6).trans c5).trans c4).trans c3).trans c2).trans c1
  unfold viewT
  simpa using this
def indexT (nm o on : ByteArray) : List To := [tokW (⟨#[105, 110, 100, 101, 120]⟩ : ByteArray), tokN nm, tokW (⟨#[111, 110]⟩ : ByteArray), tokN o, tokW (⟨#[40]⟩ : ByteArray), tokN on, tokW (⟨#[41]⟩ : ByteArray)]
def indexX (nm o on : ByteArray) : Sx := { Sx.zero with kind := 3, name := nm, of_ := o, on := on }
theorem index_con (hX : X.Ok) {σ : Ps} (h : (X.index σ).2.bad = none) :
    ∃ nm o on, (X.index σ).1 = indexX nm o on ∧ Con X σ (indexT nm o on) (X.index σ).2 ∧ nameOK nm ∧ nameOK o ∧ nameOK on := by
  unfold Tx.index at h ⊢
  simp only at h ⊢
  have c1 := must_con hX _ h
  obtain ⟨c2, n2⟩ := name_con hX c1.1
  have c3 := must_con hX _ c2.1
  obtain ⟨c4, n4⟩ := name_con hX c3.1
  have c5 := must_con hX _ c4.1
  obtain ⟨c6, n6⟩ := name_con hX c5.1
  have c7 := must_con hX _ c6.1
  refine ⟨_, _, _, rfl, ?_, n6, n4, n2⟩
  exact (((((c7.trans c6).trans c5).trans c4).trans c3).trans c2).trans c1
def commaV (l : List Tm) : List To := l.flatMap fun b => [tokW (⟨#[44]⟩ : ByteArray), tokT b]
def valsT : List Tm → List To
  | [] => []
  | a :: l => tokT a :: commaV l
theorem valuesF_con (hX : X.Ok) : ∀ n σ l, (X.valuesF n σ l).2.bad = none → ∃ r, (X.valuesF n σ l).1 = l ++ r ∧ Con X σ (commaV r) (X.valuesF n σ l).2 ∧ ∀ v ∈ r, termOK v
  | 0, σ, l, h => ⟨[], by simp [Tx.valuesF], Con.refl h, by simp⟩
  | n + 1, σ, l, h => by
    rw [Tx.valuesF] at h ⊢
    split at h
    · rename_i hs
      rw [if_pos hs]
      simp only at h ⊢
      obtain ⟨r, h1, h2, h3⟩ := valuesF_con hX n _ _ h
      obtain ⟨g1, g2⟩ := value_con hX h2.1
      refine ⟨_ :: r, by rw [h1, List.append_assoc]; rfl, ((may_con hX hs).trans g1).trans h2, ?_⟩
      intro v hv
      rcases List.mem_cons.1 hv with rfl | hv
      · exact g2
      · exact h3 v hv
    · rename_i hs
      rw [if_neg hs]
      exact ⟨[], by simp, Con.refl h, by simp⟩
def insertT (o : ByteArray) (c : List ByteArray) (v : List Tm) (stamp ttl : Int) : List To :=
  [tokW (⟨#[105, 110, 116, 111]⟩ : ByteArray), tokN o, tokW (⟨#[40]⟩ : ByteArray)] ++ colsT c ++ [tokW (⟨#[41]⟩ : ByteArray), tokW (⟨#[118, 97, 108, 117, 101, 115]⟩ : ByteArray), tokW (⟨#[40]⟩ : ByteArray)] ++ valsT v ++ [tokW (⟨#[41]⟩ : ByteArray)] ++ usingT stamp ttl
def insertX (o : ByteArray) (c : List ByteArray) (v : List Tm) (stamp ttl : Int) : Sx := { Sx.zero with kind := 5, of_ := o, sets := List.zipWith Pr.mk c v, stamp := stamp, ttl := ttl }
def insertOK (o : ByteArray) (c : List ByteArray) (v : List Tm) (stamp ttl : Int) : Prop := nameOK o ∧ c ≠ [] ∧ colsOK 10 c ∧ v.length = c.length ∧ (∀ t ∈ v, termOK t) ∧ usingOK true stamp ttl
theorem insert_con (hX : X.Ok) {σ : Ps} (h : (X.insert σ).2.bad = none) :
    ∃ o c v stamp ttl, (X.insert σ).1 = insertX o c v stamp ttl ∧ Con X σ (insertT o c v stamp ttl) (X.insert σ).2 ∧ insertOK o c v stamp ttl := by
  unfold Tx.insert at h ⊢
  obtain ⟨σ0, e0⟩ : ∃ r, X.must σ [(⟨#[105, 110, 116, 111]⟩ : ByteArray)] = r := ⟨_, rfl⟩
  obtain ⟨⟨o, σ1⟩, e1⟩ : ∃ r, X.name σ0 = r := ⟨_, rfl⟩
  obtain ⟨σ2, e2⟩ : ∃ r, X.must σ1 [(⟨#[40]⟩ : ByteArray)] = r := ⟨_, rfl⟩
  obtain ⟨⟨c, σ3⟩, e3⟩ : ∃ r, X.columns σ2 10 = r := ⟨_, rfl⟩
  obtain ⟨σ4, e4⟩ : ∃ r, X.must σ3 [(⟨#[41]⟩ : ByteArray), (⟨#[118, 97, 108, 117, 101, 115]⟩ : ByteArray), (⟨#[40]⟩ : ByteArray)] = r := ⟨_, rfl⟩
  obtain ⟨⟨v0, σ5⟩, e5⟩ : ∃ r, X.value σ4 = r := ⟨_, rfl⟩
  obtain ⟨⟨v, σ6⟩, e6⟩ : ∃ r, X.valuesF X.T.length σ5 [v0] = r := ⟨_, rfl⟩
  simp only [e0, e1, e2, e3, e4, e5, e6] at h ⊢
  obtain ⟨stamp, ttl, x1, c1, u1⟩ := using_con hX (by exact ⟨rfl, rfl⟩) h
  rw [x1]
  have c2 := must_con hX _ c1.1
  have hk : X.sees σ6 (⟨#[41]⟩ : ByteArray) = true ∧ v.length = c.length := by
    have hh := c1.1
    cases hq : X.sees σ6 (⟨#[41]⟩ : ByteArray) with
    | true =>
      refine ⟨rfl, ?_⟩
      by_cases hl : v.length = c.length
      · exact hl
      · exfalso
        rw [hq] at c2
        have := c2.1
        rw [if_pos (by simpa using hl)] at this
        exact wrong_bad this
    | false =>
      exfalso
      rw [hq] at hh
      simp only [Bool.false_and, Bool.false_eq_true, if_false] at hh
      revert hh
      show (X.must1 _ _).bad = none → False
      unfold Tx.must1
      rw [hq, if_neg (by decide)]
      exact wrong_bad
  have hif : (if (X.sees σ6 (⟨#[41]⟩ : ByteArray) && v.length != c.length) = true then X.fail σ6 else σ6) = σ6 := by
    rw [if_neg]
    rw [hk.2]; simp
  rw [hif] at c2 c1 ⊢
  obtain ⟨r, y3, c3, n3⟩ := valuesF_con hX X.T.length σ5 [v0] (by rw [e6]; exact c2.1)
  rw [e6] at y3 c3
  obtain ⟨c4, n4⟩ := value_con hX (σ := σ4) (by rw [e5]; exact c3.1)
  rw [e5] at c4 n4
  have c5 := must_con hX _ (by rw [e4]; exact c4.1)
  rw [e4] at c5
  obtain ⟨m6, c6, n6⟩ := columns_con hX (by rw [e3]; exact c5.1)
  rw [e3] at m6 c6 n6
  have c7 := must_con hX _ (by rw [e2]; exact c6.1)
  rw [e2] at c7
  obtain ⟨c8, n8⟩ := name_con hX (by rw [e1]; exact c7.1)
  rw [e1] at c8 n8
  have c9 := must_con hX _ (by rw [e0]; exact c8.1)
  rw [e0] at c9
  simp only at y3
  subst y3
  refine ⟨_, _, _, stamp, ttl, rfl, ?_, n8, m6, n6, hk.2, ?_, u1⟩
  · have := (((((((c9.trans c8).trans c7).trans c6).trans c5).trans c4).trans c3).trans c2).trans c1
    unfold insertT
    simpa [valsT] using this
  · intro t ht
    simp only [List.cons_append, List.nil_append, List.mem_cons] at ht
    rcases ht with rfl | ht
    · exact n4
    · exact n3 t ht
def setsT : List Pr → List To
  | [] => []
  | p :: l => pairT p ++ l.flatMap fun q => tokW (⟨#[44]⟩ : ByteArray) :: pairT q
theorem setsT_cons (p : Pr) (l : List Pr) (h : l ≠ []) : setsT (p :: l) = pairT p ++ tokW (⟨#[44]⟩ : ByteArray) :: setsT l := by
  cases l with
  | nil => exact absurd rfl h
  | cons q l => simp [setsT]
theorem setsF_con (hX : X.Ok) : ∀ n σ l (Z : List Pr), Z.map Pr.name = l → l.length ≤ 8 → (X.F.drop σ.i).length < n → (X.setsF n σ l Z).2.bad = none →
    ∃ r : List Pr, r ≠ [] ∧ (X.setsF n σ l Z).1 = Z ++ r ∧ Con X σ (setsT r) (X.setsF n σ l Z).2 ∧ (∀ p ∈ r, pairOK p) ∧ distF l (r.map Pr.name) ∧ (l ++ r.map Pr.name).length ≤ 8
  | 0, σ, l, Z, _, _, hn, _ => absurd hn (by omega)
  | n + 1, σ, l, Z, hl, hl8, hn, h => by
    have hcon : ∀ m σ' l' Z', 0 < m → (X.setsF m σ' l' Z').2.bad = none → σ'.bad = none := by
      intro m
      induction m with
      | zero => intro σ' l' Z' hm; exact absurd hm (by omega)
      | succ m ih =>
        intro σ' l' Z' _ hh
        rw [Tx.setsF] at hh
        try simp only at hh
        have hv : (X.value (X.must (X.column σ' l' 8).2 [(⟨#[61]⟩ : ByteArray)])).2.bad = none := by
          split at hh
          · rename_i hs; exact sees_none hs
          · exact hh
        obtain ⟨_, _, g2, _⟩ := column_con hX (must_con hX _ (value_con hX hv).1.1).1
        exact g2.1
    rw [Tx.setsF] at h ⊢
    try simp only at h ⊢
    obtain ⟨⟨l1, σ1⟩, hc⟩ : ∃ r, X.column σ l 8 = r := ⟨_, rfl⟩
    obtain ⟨σ2, h2⟩ : ∃ r, X.must σ1 [(⟨#[61]⟩ : ByteArray)] = r := ⟨_, rfl⟩
    obtain ⟨⟨t, σ3⟩, h3⟩ : ∃ r, X.value σ2 = r := ⟨_, rfl⟩
    simp only [hc, h2, h3] at h ⊢
    have hb3 : σ3.bad = none := by
      split at h
      · rename_i hs; exact sees_none hs
      · exact h
    have c3 := value_con hX (σ := σ2) (by rw [h3]; exact hb3)
    rw [h3] at c3
    have c2 := must_con hX [(⟨#[61]⟩ : ByteArray)] (σ := σ1) (by rw [h2]; exact c3.1.1)
    rw [h2] at c2
    have hcb : (X.column σ l 8).2.bad = none := by rw [hc]; exact c2.1
    obtain ⟨s, g1, g2, g3, g4, g5⟩ := column_con hX hcb
    rw [hc] at g1 g2
    simp only at g1 g2
    subst g1
    have hlast : (l ++ [s]).getLastD ⟨#[]⟩ = s := by simp
    rw [hlast] at h ⊢
    have hcc := (g2.trans c2).trans c3.1
    split at h
    · rename_i hs
      rw [if_pos hs]
      have hc4 := hcc.trans (may_con hX hs)
      have hlen := congrArg List.length hc4.2
      simp only [List.length_append, List.length_cons, List.length_nil, List.length_map] at hlen
      obtain ⟨r, r0, r1, r2, r3, r4, r5⟩ := setsF_con hX n σ3.step (l ++ [s]) (Z ++ [⟨s, t⟩]) (by rw [List.map_append, hl]; rfl) (by simp; omega) (by omega) h
      refine ⟨⟨s, t⟩ :: r, by simp, by rw [r1]; simp, ?_, ?_, ⟨g4, r4⟩, by simpa using r5⟩
      · rw [setsT_cons _ _ r0]
        have := hc4.trans r2
        simpa [pairT] using this
      · intro p hp
        rcases List.mem_cons.1 hp with rfl | hp
        · exact ⟨g3, c3.2⟩
        · exact r3 p hp
    · rename_i hs
      rw [if_neg hs]
      refine ⟨[⟨s, t⟩], by simp, rfl, ?_, ?_, ⟨g4, trivial⟩, by simp; omega⟩
      · simpa [setsT, pairT] using hcc
      · intro p hp
        simp only [List.mem_cons, List.not_mem_nil, or_false] at hp
        subst hp
        exact ⟨g3, c3.2⟩
def updateT (o : ByteArray) (stamp ttl : Int) (sets wher : List Pr) : List To := [tokN o] ++ usingT stamp ttl ++ [tokW (⟨#[115, 101, 116]⟩ : ByteArray)] ++ setsT sets ++ whereT wher
def updateX (o : ByteArray) (stamp ttl : Int) (sets wher : List Pr) : Sx := { Sx.zero with kind := 6, of_ := o, stamp := stamp, ttl := ttl, sets := sets, wher := wher }
def setsOK (l : List Pr) : Prop := l ≠ [] ∧ (∀ p ∈ l, pairOK p) ∧ distF [] (l.map Pr.name) ∧ l.length ≤ 8
def updateOK (o : ByteArray) (stamp ttl : Int) (sets wher : List Pr) : Prop := nameOK o ∧ usingOK true stamp ttl ∧ setsOK sets ∧ whereOK true wher
theorem update_con (hX : X.Ok) {σ : Ps} (h : (X.update σ).2.bad = none) :
    ∃ o stamp ttl sets wher, (X.update σ).1 = updateX o stamp ttl sets wher ∧ Con X σ (updateT o stamp ttl sets wher) (X.update σ).2 ∧ updateOK o stamp ttl sets wher := by
  unfold Tx.update at h ⊢
  obtain ⟨⟨o, σ0⟩, g0⟩ : ∃ r, X.name σ = r := ⟨_, rfl⟩
  simp only [g0] at h ⊢
  obtain ⟨⟨u, σ1⟩, g1⟩ : ∃ r, X.using_ σ0 true { Sx.zero with kind := 6, of_ := o } = r := ⟨_, rfl⟩
  obtain ⟨σ2, g2⟩ : ∃ r, X.must σ1 [(⟨#[115, 101, 116]⟩ : ByteArray)] = r := ⟨_, rfl⟩
  obtain ⟨⟨Z, σ3⟩, g3⟩ : ∃ r, X.setsF (X.T.length + 1) σ2 [] [] = r := ⟨_, rfl⟩
  simp only [g1, g2, g3] at h ⊢
  obtain ⟨c1, n1⟩ := where_con hX h
  obtain ⟨r, r0, r1, r2, r3, r4, r5⟩ := setsF_con hX (X.T.length + 1) σ2 [] [] rfl (Nat.zero_le _) (fuel_ok _) (by rw [g3]; exact c1.1)
  rw [g3] at r1 r2
  have c2 := must_con hX _ (by rw [g2]; exact r2.1)
  rw [g2] at c2
  obtain ⟨stamp, ttl, e3, c3, u3⟩ := using_con (x := { Sx.zero with kind := 6, of_ := o }) hX (by exact ⟨rfl, rfl⟩) (by rw [g1]; exact c2.1)
  rw [g1] at e3 c3
  obtain ⟨c4, n4⟩ := name_con hX (by rw [g0]; exact c3.1)
  rw [g0] at c4 n4
  simp only [List.nil_append] at r1 r5
  simp only at e3
  subst r1 e3
  refine ⟨o, stamp, ttl, Z, _, rfl, ?_, n4, u3, ⟨r0, r3, r4, by simpa using r5⟩, n1⟩
  have := (((c4.trans c3).trans c2).trans r2).trans c1
  unfold updateT
  simpa using this
def removeT (cols : List ByteArray) (o : ByteArray) (stamp : Int) (wher : List Pr) : List To := colsT cols ++ [tokW (⟨#[102, 114, 111, 109]⟩ : ByteArray), tokN o] ++ usingT stamp 0 ++ whereT wher
def removeX (cols : List ByteArray) (o : ByteArray) (stamp : Int) (wher : List Pr) : Sx := { Sx.zero with kind := 7, cols := cols, of_ := o, stamp := stamp, wher := wher }
def removeOK (cols : List ByteArray) (o : ByteArray) (stamp : Int) (wher : List Pr) : Prop := colsOK 8 cols ∧ nameOK o ∧ usingOK false stamp 0 ∧ whereOK false wher
theorem remove_con (hX : X.Ok) {σ : Ps} (h : (X.remove σ).2.bad = none) :
    ∃ cols o stamp wher, (X.remove σ).1 = removeX cols o stamp wher ∧ Con X σ (removeT cols o stamp wher) (X.remove σ).2 ∧ removeOK cols o stamp wher := by
  unfold Tx.remove at h ⊢
  simp only at h ⊢
  obtain ⟨c1, n1⟩ := where_con hX h
  obtain ⟨stamp, ttl, e3, c3, u3⟩ := using_con hX (by exact ⟨rfl, rfl⟩) c1.1
  have ht : ttl = 0 := by
    rcases u3.2 with ht | ⟨ht, _⟩
    · exact ht
    · exact absurd ht (by decide)
  subst ht
  obtain ⟨c4, n4⟩ := name_con hX c3.1
  have c5 := must_con hX _ c4.1
  have c6 : ∃ cols, (if X.sees σ (⟨#[102, 114, 111, 109]⟩ : ByteArray) = true then ([], σ) else X.columns σ 8).1 = cols ∧ Con X σ (colsT cols) (if X.sees σ (⟨#[102, 114, 111, 109]⟩ : ByteArray) = true then ([], σ) else X.columns σ 8).2 ∧ colsOK 8 cols := by
    have hb := c5.1
    split at hb
    · rename_i hs
      rw [if_pos hs]
      exact ⟨_, rfl, Con.refl hb, by simp, trivial, by simp⟩
    · rename_i hs
      rw [if_neg hs]
      obtain ⟨_, a, b⟩ := columns_con hX hb
      exact ⟨_, rfl, a, b⟩
  obtain ⟨cols, e6, c6, n6⟩ := c6
  refine ⟨cols, _, stamp, _, by rw [e3, e6]; rfl, ?_, n6, n4, u3, n1⟩
  have := (((c6.trans c5).trans c4).trans c3).trans c1
  unfold removeT
  simpa using this
def limitT (n : Int) : List To := if n = 0 then [] else [tokW (⟨#[108, 105, 109, 105, 116]⟩ : ByteArray), tokC n]
def askT (cols : List ByteArray) (o : ByteArray) (wher : List Pr) (limit : Int) : List To := someT cols ++ [tokW (⟨#[102, 114, 111, 109]⟩ : ByteArray), tokN o] ++ whereT wher ++ limitT limit
def askX (cols : List ByteArray) (o : ByteArray) (wher : List Pr) (limit : Int) : Sx := { Sx.zero with kind := 8, cols := cols, of_ := o, wher := wher, limit := limit }
def askOK (cols : List ByteArray) (o : ByteArray) (wher : List Pr) (limit : Int) : Prop := colsOK 8 cols ∧ nameOK o ∧ whereOK false wher ∧ (limit = 0 ∨ countOK limit)
theorem ask_con (hX : X.Ok) {σ : Ps} (h : (X.ask σ).2.bad = none) :
    ∃ cols o wher limit, (X.ask σ).1 = askX cols o wher limit ∧ Con X σ (askT cols o wher limit) (X.ask σ).2 ∧ askOK cols o wher limit := by
  unfold Tx.ask at h ⊢
  simp only at h ⊢
  have go : ∀ {σ4 : Ps} {L : List To}, Con X (X.wher (X.name (X.must (X.some_ σ).2 [(⟨#[102, 114, 111, 109]⟩ : ByteArray)])).2 false).2 L σ4 → Con X σ (someT (X.some_ σ).1 ++ [tokW (⟨#[102, 114, 111, 109]⟩ : ByteArray), tokN (X.name (X.must (X.some_ σ).2 [(⟨#[102, 114, 111, 109]⟩ : ByteArray)])).1] ++ whereT (X.wher (X.name (X.must (X.some_ σ).2 [(⟨#[102, 114, 111, 109]⟩ : ByteArray)])).2 false).1 ++ L) σ4 ∧ colsOK 8 (X.some_ σ).1 ∧ nameOK (X.name (X.must (X.some_ σ).2 [(⟨#[102, 114, 111, 109]⟩ : ByteArray)])).1 ∧ whereOK false (X.wher (X.name (X.must (X.some_ σ).2 [(⟨#[102, 114, 111, 109]⟩ : ByteArray)])).2 false).1 := by
    intro σ4 L hc
    obtain ⟨c1, n1⟩ := where_con hX hc.1
    obtain ⟨c2, n2⟩ := name_con hX c1.1
    have c3 := must_con hX _ c2.1
    obtain ⟨c4, n4⟩ := some_con hX c3.1
    refine ⟨?_, n4, n2, n1⟩
    have := (((c4.trans c3).trans c2).trans c1).trans hc
    simpa using this
  split at h
  · rename_i hs
    rw [if_pos hs]
    simp only at h ⊢
    obtain ⟨c0, n0⟩ := count_con hX h
    obtain ⟨g1, g2, g3, g4⟩ := go ((may_con hX hs).trans c0)
    refine ⟨_, _, _, _, rfl, ?_, g2, g3, g4, .inr n0⟩
    unfold askT limitT
    rw [if_neg (countOK_ne n0)]
    exact g1
  · rename_i hs
    rw [if_neg hs]
    obtain ⟨g1, g2, g3, g4⟩ := go (Con.refl h)
    refine ⟨_, _, _, 0, rfl, ?_, g2, g3, g4, .inl rfl⟩
    unfold askT limitT
    rw [if_pos rfl]
    exact g1

inductive GC : Sx → List To → Prop
  | insert (o : ByteArray) (c : List ByteArray) (v : List Tm) (stamp ttl : Int) (h : insertOK o c v stamp ttl) : GC (insertX o c v stamp ttl) (tokW (⟨#[105, 110, 115, 101, 114, 116]⟩ : ByteArray) :: insertT o c v stamp ttl)
  | update (o : ByteArray) (stamp ttl : Int) (sets wher : List Pr) (h : updateOK o stamp ttl sets wher) : GC (updateX o stamp ttl sets wher) (tokW (⟨#[117, 112, 100, 97, 116, 101]⟩ : ByteArray) :: updateT o stamp ttl sets wher)
  | remove (cols : List ByteArray) (o : ByteArray) (stamp : Int) (wher : List Pr) (h : removeOK cols o stamp wher) : GC (removeX cols o stamp wher) (tokW (⟨#[100, 101, 108, 101, 116, 101]⟩ : ByteArray) :: removeT cols o stamp wher)
inductive GP : Sx → List To → Prop
  | table (nm : ByteArray) (C : List Cl) (pk ck : ByteArray) (h : tableOK nm C pk ck) : GP (tableX nm C pk ck) (tokW (⟨#[99, 114, 101, 97, 116, 101]⟩ : ByteArray) :: tokW (⟨#[116, 97, 98, 108, 101]⟩ : ByteArray) :: tableT nm C pk ck)
  | view (nm : ByteArray) (cols : List ByteArray) (o on p q : ByteArray) (h : viewOK nm cols o on p q) : GP (viewX nm cols o on p q) (tokW (⟨#[99, 114, 101, 97, 116, 101]⟩ : ByteArray) :: tokW (⟨#[109, 97, 116, 101, 114, 105, 97, 108, 105, 122, 101, 100]⟩ : ByteArray) :: viewT nm cols o on p q)
  | index (nm o on : ByteArray) (h : nameOK nm ∧ nameOK o ∧ nameOK on) : GP (indexX nm o on) (tokW (⟨#[99, 114, 101, 97, 116, 101]⟩ : ByteArray) :: indexT nm o on)
  | drop (nm : ByteArray) (h : nameOK nm) : GP { Sx.zero with kind := 4, name := nm } [tokW (⟨#[100, 114, 111, 112]⟩ : ByteArray), tokN nm]
  | ask (cols : List ByteArray) (o : ByteArray) (wher : List Pr) (limit : Int) (h : askOK cols o wher limit) : GP (askX cols o wher limit) (tokW (⟨#[115, 101, 108, 101, 99, 116]⟩ : ByteArray) :: askT cols o wher limit)
inductive GB : List Sx → List To → Prop
  | nil : GB [] []
  | cons {x : Sx} {L : List To} {l : List Sx} {M : List To} (h : GC x L) (h' : GB l M) : GB (x :: l) (L ++ tokW (⟨#[59]⟩ : ByteArray) :: M)
inductive GN : Tx.Nd → List To → Prop
  | plain {x : Sx} {L : List To} (h : GP x L) : GN (.plain x) L
  | change {x : Sx} {L : List To} (h : GC x L) : GN (.change x) L
  | batch {l : List Sx} {L : List To} (h : GB l L) (h1 : l ≠ []) (h2 : l.length ≤ 8) : GN (.batch l) ([tokW (⟨#[98, 101, 103, 105, 110]⟩ : ByteArray), tokW (⟨#[98, 97, 116, 99, 104]⟩ : ByteArray)] ++ L ++ [tokW (⟨#[97, 112, 112, 108, 121]⟩ : ByteArray), tokW (⟨#[98, 97, 116, 99, 104]⟩ : ByteArray)])
theorem manyF_bad {st : Ps → Tx.Nd × Ps} {σ : Ps} (h : σ.bad ≠ none) (n : Nat) (l : List Sx) : X.manyF st n σ l = (l, σ) := by
  cases n with
  | zero => rfl
  | succ n =>
    rw [Tx.manyF]
    cases hb : σ.bad with
    | none => exact absurd hb h
    | some a => simp
theorem manyF_con (hX : X.Ok) {st : Ps → Tx.Nd × Ps} (hst : ∀ σ x σ', st σ = (.change x, σ') → σ'.bad = none → ∃ L, GC x L ∧ Con X σ L σ') : ∀ n σ l, 10 ≤ l.length + n → l.length ≤ 8 → (X.manyF st n σ l).2.bad = none →
    ∃ D M, (X.manyF st n σ l).1 = l ++ D ∧ GB D M ∧ Con X σ (M ++ [tokW (⟨#[97, 112, 112, 108, 121]⟩ : ByteArray)]) (X.manyF st n σ l).2 ∧ (l ++ D).length ≤ 8 ∧ l ++ D ≠ []
  | 0, σ, l, h1, h2, _ => absurd h1 (by omega)
  | n + 1, σ, l, h1, h2, h => by
    cases hb : σ.bad with
    | some a =>
      exfalso
      rw [manyF_bad (by rw [hb]; simp)] at h
      simp only at h
      rw [hb] at h; exact absurd h (by simp)
    | none =>
      rw [Tx.manyF, hb] at h ⊢
      simp only [Option.isSome_none, Bool.false_eq_true, if_false] at h ⊢
      split at h
      · rename_i hs
        rw [if_pos hs]
        simp only [Bool.and_eq_true, Bool.not_eq_true'] at hs
        refine ⟨[], [], by simp, .nil, may_con hX hs.2, by simpa using h2, ?_⟩
        intro e
        rw [List.append_nil] at e
        rw [e] at hs; exact absurd hs.1 (by decide)
      · rename_i hs
        rw [if_neg hs]
        obtain ⟨⟨nd, σ1⟩, h3⟩ : ∃ r, st (if 8 ≤ l.length then σ.wrong (X.here σ) else σ) = r := ⟨_, rfl⟩
        simp only [h3] at h ⊢
        cases nd with
        | plain x => exact absurd h (by simp)
        | batch x => exact absurd h (by simp)
        | change x =>
          simp only at h ⊢
          have hb2 : (X.must σ1 [(⟨#[59]⟩ : ByteArray)]).bad = none := by
            cases hb2 : (X.must σ1 [(⟨#[59]⟩ : ByteArray)]).bad with
            | none => rfl
            | some a =>
              rw [manyF_bad (by rw [hb2]; simp)] at h
              simp only at h
              rw [hb2] at h; exact absurd h (by simp)
          have c2 := must_con hX _ hb2
          obtain ⟨L, hG, c1⟩ := hst _ _ _ h3 c2.1
          obtain ⟨k1, k2⟩ := if_wrong c1.1
          rw [k2] at c1
          obtain ⟨D, M, d1, d2, d3, d4, d5⟩ := manyF_con hX hst n _ (l ++ [x]) (by simp; omega) (by simp; omega) h
          refine ⟨x :: D, L ++ tokW (⟨#[59]⟩ : ByteArray) :: M, by rw [d1]; simp, .cons hG d2, ?_, by simpa using d4, by simp⟩
          have := (c1.trans c2).trans d3
          simpa using this
theorem stF_step (hX : X.Ok) (n : Nat) (hst : ∀ σ x σ', X.stF n σ = (.change x, σ') → σ'.bad = none → ∃ L, GC x L ∧ Con X σ L σ') (σ : Ps) (h : (X.stF (n + 1) σ).2.bad = none) : ∃ L, GN (X.stF (n + 1) σ).1 L ∧ Con X σ L (X.stF (n + 1) σ).2 := by
  rw [Tx.stF] at h ⊢
  split at h
  · rename_i hs
    rw [if_pos hs]
    obtain ⟨o, c, v, a, b, e, hc, ho⟩ := insert_con hX h
    simp only [e]
    exact ⟨_, .change (.insert o c v a b ho), (may_con hX hs).trans hc⟩
  rename_i hs; rw [if_neg hs]; clear hs
  split at h
  · rename_i hs
    rw [if_pos hs]
    obtain ⟨o, c, v, a, b, e, hc, ho⟩ := update_con hX h
    simp only [e]
    exact ⟨_, .change (.update o c v a b ho), (may_con hX hs).trans hc⟩
  rename_i hs; rw [if_neg hs]; clear hs
  split at h
  · rename_i hs
    rw [if_pos hs]
    obtain ⟨o, c, v, a, e, hc, ho⟩ := remove_con hX h
    simp only [e]
    exact ⟨_, .change (.remove o c v a ho), (may_con hX hs).trans hc⟩
  rename_i hs; rw [if_neg hs]; clear hs
  split at h
  · rename_i hs
    rw [if_pos hs]
    obtain ⟨o, c, v, a, e, hc, ho⟩ := ask_con hX h
    simp only [e]
    exact ⟨_, .plain (.ask o c v a ho), (may_con hX hs).trans hc⟩
  rename_i hs; rw [if_neg hs]; clear hs
  split at h
  · rename_i hs
    rw [if_pos hs]
    unfold Tx.many at h ⊢
    simp only at h ⊢
    have c3 := must_con hX _ h
    obtain ⟨D, M, d1, d2, d3, d4, d5⟩ := manyF_con hX hst 10 _ [] (by simp) (by simp) c3.1
    have c1 := must_con hX _ d3.1
    rw [List.nil_append] at d1 d4 d5
    rw [d1]
    refine ⟨_, .batch d2 d5 d4, ?_⟩
    have := (((may_con hX hs).trans c1).trans d3).trans c3
    simpa using this
  rename_i hs; rw [if_neg hs]; clear hs
  split at h
  · rename_i hs
    rw [if_pos hs]
    obtain ⟨hc, ho⟩ := name_con hX h
    exact ⟨_, .plain (.drop _ ho), (may_con hX hs).trans hc⟩
  rename_i hs; rw [if_neg hs]; clear hs
  split at h
  · rename_i hs
    rw [if_pos hs]
    split at h
    · rename_i ht
      rw [if_pos ht]
      obtain ⟨o, c, v, a, e, hc, ho⟩ := table_con hX h
      simp only [e]
      exact ⟨_, .plain (.table o c v a ho), ((may_con hX hs).trans (may_con hX ht)).trans hc⟩
    rename_i ht; rw [if_neg ht]; clear ht
    split at h
    · rename_i ht
      rw [if_pos ht]
      obtain ⟨o, c, v, a, p, q, e, hc, ho⟩ := view_con hX h
      simp only [e]
      exact ⟨_, .plain (.view o c v a p q ho), ((may_con hX hs).trans (may_con hX ht)).trans hc⟩
    rename_i ht; rw [if_neg ht]; clear ht
    obtain ⟨o, c, v, e, hc, ho⟩ := index_con hX h
    simp only [e]
    exact ⟨_, .plain (.index o c v ho), (may_con hX hs).trans hc⟩
  exact absurd h wrong_bad
theorem stF_con (hX : X.Ok) : ∀ n σ, (X.stF (n + 1) σ).2.bad = none → ∃ L, GN (X.stF (n + 1) σ).1 L ∧ Con X σ L (X.stF (n + 1) σ).2 := by
  intro n
  induction n with
  | zero =>
    exact stF_step hX 0 (by intro σ x σ' h; rw [Tx.stF] at h; cases h)
  | succ n ih =>
    refine stF_step hX (n + 1) (fun σ x σ' h hb => ?_)
    obtain ⟨L, h1, h2⟩ := ih σ (by rw [h]; exact hb)
    rw [h] at h1 h2
    cases h1 with
    | change hG => exact ⟨L, hG, h2⟩
end

end Cle
end Go.Proofs.YtfbgdjcnlnfoaaaGreatDoor

namespace Go.Proofs.YtfbgdjcnlnfoaaaGreatDoor
namespace Cle

section
variable {X : Tx}
def Cur (X : Tx) (σ : Ps) (L : List To) : Prop := σ.bad = none ∧ X.F.drop σ.i = L
theorem Cur.step {σ : Ps} {t : To} {L : List To} (h : Cur X σ (t :: L)) : Cur X σ.step L := ⟨h.1, drop_next h.2⟩
theorem Cur.sees {σ : Ps} {L : List To} (h : Cur X σ L) (s : ByteArray) : X.sees σ s = seesF L s := by rw [sees_F h.1, h.2]
theorem Cur.get {σ : Ps} {t : To} {L : List To} (h : Cur X σ (t :: L)) : ∃ u, X.T[σ.i]? = some u ∧ u.fo = t := by
  cases hx : X.T[σ.i]? with
  | none => have := h.2; rw [drop_none hx] at this; exact absurd this (by simp)
  | some u =>
    have := h.2
    rw [drop_some hx] at this
    injection this with h1 _
    exact ⟨u, rfl, h1⟩
theorem Cur.len {σ : Ps} {L : List To} (h : Cur X σ L) : L.length ≤ X.T.length := by rw [← h.2]; exact F_len _
theorem seesF_W (a s : ByteArray) (R : List To) : seesF (tokW a :: R) s = bEq a s := by
  unfold seesF tokW
  cases inB a signL <;> simp
theorem seesF_N (a s : ByteArray) (R : List To) : seesF (tokN a :: R) s = bEq a s := by unfold seesF tokN; simp
def kwB (w : ByteArray) : Bool := resB w || inB w signL
theorem name_kw {s w : ByteArray} (h : nameOK s) (hw : kwB w = true) : bEq s w = false := by
  cases hb : bEq s w with
  | false => rfl
  | true =>
    have := bEq_iff.1 hb
    subst this
    unfold kwB at hw
    rw [h.2.2.2, wordy_sign h.1] at hw
    exact absurd hw (by decide)
theorem seesF_name {s w : ByteArray} (h : nameOK s) (hw : kwB w = true) (R : List To) : seesF (tokN s :: R) w = false := by rw [seesF_N, name_kw h hw]
theorem must1_go {σ : Ps} {s : ByteArray} {R : List To} (h : Cur X σ (tokW s :: R)) : Cur X (X.must1 σ s) R := by
  unfold Tx.must1
  rw [if_pos (by rw [h.sees, seesF_W]; exact bEq_iff.2 rfl)]
  exact h.step
theorem must_go : ∀ (l : List ByteArray) {σ : Ps} {R : List To} (_ : Cur X σ (l.map tokW ++ R)), Cur X (X.must σ l) R
  | [], _, _, h => h
  | s :: l, σ, _R, h => must_go l (σ := X.must1 σ s) (must1_go h)
theorem name_go {σ : Ps} {s : ByteArray} {R : List To} (h : Cur X σ (tokN s :: R)) (hn : nameOK s) : (X.name σ).1 = s ∧ Cur X (X.name σ).2 R := by
  obtain ⟨u, hu, hf⟩ := h.get
  unfold Tk.fo tokN at hf
  injection hf with h1 h2
  injection h2 with h2 h3
  have hx : X.next σ 1 = some u := by unfold Tx.next; rw [h.1, hu]; simp [h1]
  unfold Tx.name
  rw [hx]
  simp only
  rw [h2, hn.2.2.2]
  exact ⟨rfl, h.step⟩
theorem value_go {σ : Ps} {t : Tm} {R : List To} (h : Cur X σ (tokT t :: R)) (hn : termOK t) : (X.value σ).1 = t ∧ Cur X (X.value σ).2 R := by
  obtain ⟨u, hu, hf⟩ := h.get
  unfold Tk.fo tokT at hf
  unfold Tx.value
  rcases hn with ⟨a, b, c, d⟩ | ⟨a, b, c, d⟩
  · rw [if_pos a] at hf
    injection hf with h1 h2
    injection h2 with h2 h3
    have hx : X.next σ 3 = some u := by unfold Tx.next; rw [h.1, hu]; simp [h1]
    rw [hx]
    refine ⟨?_, h.step⟩
    cases t; simp only at a d h2; subst a d h2; rfl
  · rw [if_neg (by rw [a]; decide)] at hf
    injection hf with h1 h2
    injection h2 with h2 h3
    have hx3 : X.next σ 3 = none := by unfold Tx.next; rw [h.1, hu]; simp [h1]
    have hx : X.next σ 2 = some u := by unfold Tx.next; rw [h.1, hu]; simp [h1]
    rw [hx3, hx]
    refine ⟨?_, h.step⟩
    cases t; simp only at a b h3; subst a b h3; rfl
theorem count_go {σ : Ps} {n : Int} {R : List To} (h : Cur X σ (tokC n :: R)) (hn : countOK n) : (X.count σ).1 = n ∧ Cur X (X.count σ).2 R := by
  have ht : termOK ⟨2, ⟨#[]⟩, n⟩ := .inr ⟨rfl, rfl, by have := hn.1; show _ ≤ n; omega, hn.2⟩
  obtain ⟨h1, h2⟩ := value_go (t := ⟨2, ⟨#[]⟩, n⟩) (by unfold tokT; rw [if_neg (show ¬ ((2 : Int) = 1) by decide)]; exact h) ht
  unfold Tx.count
  simp only
  rw [h1]
  refine ⟨rfl, ?_⟩
  rw [if_neg]
  · exact h2
  · have := hn.1; have := hn.2
    simp only [not_or, Decidable.not_not]
    refine ⟨trivial, ?_, ?_⟩ <;> omega
theorem column_go {σ : Ps} {s : ByteArray} {R : List To} {l : List ByteArray} {most : Nat} (h : Cur X σ (tokN s :: R)) (hn : nameOK s) (hd : inB s l = false) (hm : l.length < most) :
    (X.column σ l most).1 = l ++ [s] ∧ Cur X (X.column σ l most).2 R := by
  unfold Tx.column
  simp only
  rw [if_neg (by omega)]
  obtain ⟨h1, h2⟩ := name_go h hn
  rw [h1, hd]
  exact ⟨rfl, h2⟩
theorem columnsF_go (most : Nat) : ∀ (r : List ByteArray) (n : Nat) (σ : Ps) (l : List ByteArray) (R : List To), r.length ≤ n → Cur X σ (commaT r ++ R) → seesF R (⟨#[44]⟩ : ByteArray) = false → (∀ s ∈ r, nameOK s) → distF l r → (l ++ r).length ≤ most →
    (X.columnsF most n σ l).1 = l ++ r ∧ Cur X (X.columnsF most n σ l).2 R
  | [], 0, σ, l, R, _, h, _, _, _, _ => ⟨by simp [Tx.columnsF], h⟩
  | [], n + 1, σ, l, R, _, h, hR, _, _, _ => by
    rw [Tx.columnsF, if_neg (by rw [h.sees]; simp [commaT, hR])]
    exact ⟨by simp, h⟩
  | s :: r, 0, _, _, _, hn, _, _, _, _, _ => absurd hn (by simp)
  | s :: r, n + 1, σ, l, R, hn, h, hR, hok, hd, hm => by
    replace h : Cur X σ (tokW (⟨#[44]⟩ : ByteArray) :: tokN s :: (commaT r ++ R)) := by simpa [commaT] using h
    rw [Tx.columnsF, if_pos (by rw [h.sees, seesF_W]; rfl)]
    simp only
    obtain ⟨h1, h2⟩ := column_go (most := most) (l := l) h.step (hok s (List.mem_cons_self ..)) hd.1 (by simp at hm; omega)
    rw [h1]
    obtain ⟨h3, h4⟩ := columnsF_go most r n _ (l ++ [s]) R (by simpa using hn) h2 hR (fun x hx => hok x (List.mem_cons_of_mem _ hx)) hd.2 (by simpa using hm)
    exact ⟨by rw [h3]; simp, h4⟩
theorem commaT_len (r : List ByteArray) : (commaT r).length = 2 * r.length := by
  induction r with
  | nil => rfl
  | cons a r ih => unfold commaT at ih ⊢; rw [List.flatMap_cons, List.length_append, ih]; simp; omega
theorem columns_go {σ : Ps} {c : List ByteArray} {R : List To} {most : Nat} (hne : c ≠ []) (hok : colsOK most c) (h : Cur X σ (colsT c ++ R)) (hR : seesF R (⟨#[44]⟩ : ByteArray) = false) : (X.columns σ most).1 = c ∧ Cur X (X.columns σ most).2 R := by
  cases c with
  | nil => exact absurd rfl hne
  | cons a c =>
    obtain ⟨h0, hd, hm⟩ := hok
    have hl := h.len
    simp only [colsT, List.length_append, List.length_cons, commaT_len] at hl
    replace h : Cur X σ (tokN a :: (commaT c ++ R)) := h
    obtain ⟨h1, h2⟩ := column_go (most := most) (l := []) h (h0 a (List.mem_cons_self ..)) rfl (by simp at hm ⊢; omega)
    unfold Tx.columns
    simp only
    rw [h1]
    obtain ⟨h3, h4⟩ := columnsF_go most c X.T.length _ [a] R (by omega) h2 hR (fun x hx => h0 x (List.mem_cons_of_mem _ hx)) hd.2 (by simpa using hm)
    exact ⟨by rw [List.nil_append, h3]; rfl, h4⟩
theorem some_go {σ : Ps} {c : List ByteArray} {R : List To} (hok : colsOK 8 c) (h : Cur X σ (someT c ++ R)) (hR : seesF R (⟨#[44]⟩ : ByteArray) = false) : (X.some_ σ).1 = c ∧ Cur X (X.some_ σ).2 R := by
  unfold Tx.some_
  unfold someT at h
  by_cases hc : c = []
  · subst hc
    rw [if_pos rfl] at h
    replace h : Cur X σ (tokW (⟨#[42]⟩ : ByteArray) :: R) := h
    rw [if_pos (by rw [h.sees, seesF_W]; rfl)]
    exact ⟨rfl, h.step⟩
  · rw [if_neg hc] at h
    rw [if_neg]
    · exact columns_go hc hok h hR
    · rw [h.sees]
      cases c with
      | nil => exact absurd rfl hc
      | cons a c =>
        rw [show colsT (a :: c) ++ R = tokN a :: (commaT c ++ R) from rfl, seesF_name (hok.1 a (List.mem_cons_self ..)) (by decide +kernel)]
        decide
theorem equal_go {σ : Ps} {p : Pr} {R : List To} (h : Cur X σ (pairT p ++ R)) (hp : pairOK p) : (X.equal σ).1 = p ∧ Cur X (X.equal σ).2 R := by
  replace h : Cur X σ (tokN p.name :: tokW (⟨#[61]⟩ : ByteArray) :: tokT p.t :: R) := h
  obtain ⟨h1, h2⟩ := name_go h hp.1
  have h3 := must_go [(⟨#[61]⟩ : ByteArray)] h2
  obtain ⟨h4, h5⟩ := value_go h3 hp.2
  unfold Tx.equal
  simp only
  rw [h1, h4]
  exact ⟨rfl, h5⟩
theorem where_go {σ : Ps} {both : Bool} {l : List Pr} {R : List To} (hok : whereOK both l) (h : Cur X σ (whereT l ++ R)) (hR : seesF R (⟨#[97, 110, 100]⟩ : ByteArray) = false) : (X.wher σ both).1 = l ∧ Cur X (X.wher σ both).2 R := by
  obtain ⟨h0, hl⟩ := hok
  unfold Tx.wher
  simp only
  rcases hl with hl | ⟨hb, hl⟩
  · obtain ⟨p, q, rfl⟩ : ∃ p q, l = [p, q] := by
      match l, hl with
      | [p, q], _ => exact ⟨p, q, rfl⟩
    replace h : Cur X σ ([(⟨#[119, 104, 101, 114, 101]⟩ : ByteArray)].map tokW ++ (pairT p ++ (tokW (⟨#[97, 110, 100]⟩ : ByteArray) :: (pairT q ++ R)))) := by simpa [whereT] using h
    have h1 := must_go _ h
    obtain ⟨h2, h3⟩ := equal_go h1 (h0 p (by simp))
    have h4 := h3.step
    have h5 := must_go [(⟨#[97, 110, 100]⟩ : ByteArray)] h3
    cases both with
    | true =>
      rw [if_pos rfl]
      obtain ⟨h6, h7⟩ := equal_go h5 (h0 q (by simp))
      exact ⟨by rw [h2, h6], h7⟩
    | false =>
      rw [if_neg (by decide), if_pos (by rw [h3.sees, seesF_W]; rfl)]
      obtain ⟨h6, h7⟩ := equal_go h4 (h0 q (by simp))
      exact ⟨by rw [h2, h6], h7⟩
  · subst hb
    obtain ⟨p, rfl⟩ : ∃ p, l = [p] := by
      match l, hl with
      | [p], _ => exact ⟨p, rfl⟩
    replace h : Cur X σ ([(⟨#[119, 104, 101, 114, 101]⟩ : ByteArray)].map tokW ++ (pairT p ++ R)) := by simpa [whereT] using h
    have h1 := must_go _ h
    obtain ⟨h2, h3⟩ := equal_go h1 (h0 p (by simp))
    rw [if_neg (by decide), if_neg (by rw [h3.sees, hR]; decide)]
    exact ⟨by rw [h2], h3⟩
theorem using_go {σ : Ps} {b : Bool} {x : Sx} (hx : x.stamp = 0 ∧ x.ttl = 0) {stamp ttl : Int} {R : List To} (hok : usingOK b stamp ttl) (h : Cur X σ (usingT stamp ttl ++ R)) (hR : seesF R (⟨#[117, 115, 105, 110, 103]⟩ : ByteArray) = false) (hR2 : seesF R (⟨#[97, 110, 100]⟩ : ByteArray) = false) :
    (X.using_ σ b x).1 = { x with stamp := stamp, ttl := ttl } ∧ Cur X (X.using_ σ b x).2 R := by
  obtain ⟨hs, ht⟩ := hok
  unfold usingT at h
  unfold Tx.using_
  simp only
  by_cases hs0 : stamp = 0
  · rw [if_pos hs0] at h
    by_cases ht0 : ttl = 0
    · rw [if_pos ht0] at h
      rw [if_neg (by rw [h.sees]; simp [hR])]
      refine ⟨?_, h⟩
      have h1 := hx.1
      have h2 := hx.2
      cases x
      simp only at h1 h2
      subst h1 h2 hs0 ht0
      rfl
    · rw [if_neg ht0] at h
      obtain ⟨hb, hc⟩ : b = true ∧ countOK ttl := by rcases ht with ht | ht; exact absurd ht ht0; exact ht
      replace h : Cur X σ (tokW (⟨#[117, 115, 105, 110, 103]⟩ : ByteArray) :: tokW (⟨#[116, 116, 108]⟩ : ByteArray) :: tokC ttl :: R) := h
      have h1 := h.step
      have h2 := h1.step
      obtain ⟨h3, h4⟩ := count_go h2 hc
      rw [if_pos (by rw [h.sees, seesF_W]; rfl), if_pos (by rw [h1.sees, seesF_W, hb]; rfl)]
      exact ⟨by rw [h3, hs0, ← hx.1], h4⟩
  · rw [if_neg hs0] at h
    have hsc : countOK stamp := by rcases hs with hs | hs; exact absurd hs hs0; exact hs
    by_cases ht0 : ttl = 0
    · rw [if_pos ht0] at h
      replace h : Cur X σ (tokW (⟨#[117, 115, 105, 110, 103]⟩ : ByteArray) :: tokW (⟨#[116, 105, 109, 101, 115, 116, 97, 109, 112]⟩ : ByteArray) :: tokC stamp :: R) := h
      have h1 := h.step
      have h2 := must_go [(⟨#[116, 105, 109, 101, 115, 116, 97, 109, 112]⟩ : ByteArray)] h1
      obtain ⟨h3, h4⟩ := count_go h2 hsc
      rw [if_pos (by rw [h.sees, seesF_W]; rfl), if_neg (by rw [h1.sees, seesF_W, show bEq (⟨#[116, 105, 109, 101, 115, 116, 97, 109, 112]⟩ : ByteArray) (⟨#[116, 116, 108]⟩ : ByteArray) = false by decide, Bool.and_false]; decide), if_neg (by rw [h4.sees, hR2, Bool.and_false]; decide)]
      exact ⟨by rw [h3, ht0, ← hx.2], h4⟩
    · rw [if_neg ht0] at h
      obtain ⟨hb, hc⟩ : b = true ∧ countOK ttl := by rcases ht with ht | ht; exact absurd ht ht0; exact ht
      replace h : Cur X σ (tokW (⟨#[117, 115, 105, 110, 103]⟩ : ByteArray) :: tokW (⟨#[116, 105, 109, 101, 115, 116, 97, 109, 112]⟩ : ByteArray) :: tokC stamp :: tokW (⟨#[97, 110, 100]⟩ : ByteArray) :: tokW (⟨#[116, 116, 108]⟩ : ByteArray) :: tokC ttl :: R) := h
      have h1 := h.step
      have h2 := must_go [(⟨#[116, 105, 109, 101, 115, 116, 97, 109, 112]⟩ : ByteArray)] h1
      obtain ⟨h3, h4⟩ := count_go h2 hsc
      have h5 := must_go [(⟨#[116, 116, 108]⟩ : ByteArray)] h4.step
      obtain ⟨h6, h7⟩ := count_go h5 hc
      rw [if_pos (by rw [h.sees, seesF_W]; rfl), if_neg (by rw [h1.sees, seesF_W, show bEq (⟨#[116, 105, 109, 101, 115, 116, 97, 109, 112]⟩ : ByteArray) (⟨#[116, 116, 108]⟩ : ByteArray) = false by decide, Bool.and_false]; decide), if_pos (by rw [h4.sees, seesF_W, hb]; rfl)]
      exact ⟨by rw [h3, h6], h7⟩
theorem one_go {σ : Ps} {s : ByteArray} {R : List To} {l : List ByteArray} {but : ByteArray} (h : Cur X σ (tokN s :: R)) (hn : nameOK s) (hl : s ∈ l) (hb : s ≠ but) : (X.one σ l but).1 = s ∧ Cur X (X.one σ l but).2 R := by
  obtain ⟨h1, h2⟩ := name_go h hn
  unfold Tx.one
  simp only
  rw [h1]
  have e1 := inB_iff.2 hl
  have e2 : bEq s but = false := by
    cases hq : bEq s but with
    | false => rfl
    | true => exact absurd (bEq_iff.1 hq) hb
  rw [e1, e2]
  exact ⟨rfl, h2⟩
theorem kind_go {σ : Ps} {ty : Int} {R : List To} (h : Cur X σ (kindT ty :: R)) (ht : ty = 1 ∨ ty = 2) : (X.kind σ).1 = ty ∧ Cur X (X.kind σ).2 R := by
  unfold Tx.kind
  unfold kindT at h
  rcases ht with rfl | rfl
  · rw [if_pos rfl] at h
    rw [if_pos (by rw [h.sees, seesF_W]; rfl)]
    exact ⟨rfl, h.step⟩
  · rw [if_neg (by decide)] at h
    rw [if_neg (by rw [h.sees, seesF_W]; decide)]
    exact ⟨rfl, must_go [(⟨#[105, 110, 116]⟩ : ByteArray)] h⟩
theorem nameOK_ne {s : ByteArray} (h : nameOK s) : s ≠ ⟨#[]⟩ := by
  rintro rfl
  exact absurd h.1 (by decide +kernel)
theorem tableF_go : ∀ (D : List Cl) (n : Nat) (σ : Ps) (l : List ByteArray) (C : List Cl) (R : List To), D.length < n → Cur X σ (D.flatMap colT ++ tokW (⟨#[112, 114, 105, 109, 97, 114, 121]⟩ : ByteArray) :: R) → (∀ c ∈ D, colOK c) → distF l (D.map Cl.name) → (l ++ D.map Cl.name).length ≤ 10 →
    (X.tableF n σ l C).1 = l ++ D.map Cl.name ∧ (X.tableF n σ l C).2.1 = C ++ D ∧ Cur X (X.tableF n σ l C).2.2 R
  | [], 0, _, _, _, _, hn, _, _, _, _ => absurd hn (by simp)
  | c :: D, 0, _, _, _, _, hn, _, _, _, _ => absurd hn (by simp)
  | [], n + 1, σ, l, C, R, _, h, _, _, _ => by
    replace h : Cur X σ (tokW (⟨#[112, 114, 105, 109, 97, 114, 121]⟩ : ByteArray) :: R) := h
    rw [Tx.tableF, h.1, if_neg (by decide), if_pos (by rw [h.sees, seesF_W]; rfl)]
    exact ⟨by simp, by simp, h.step⟩
  | c :: D, n + 1, σ, l, C, R, hn, h, hok, hd, hm => by
    replace h : Cur X σ (tokN c.name :: kindT c.ty :: tokW (⟨#[44]⟩ : ByteArray) :: (D.flatMap colT ++ tokW (⟨#[112, 114, 105, 109, 97, 114, 121]⟩ : ByteArray) :: R)) := by simpa [colT] using h
    obtain ⟨ho1, ho2⟩ := hok c (List.mem_cons_self ..)
    rw [Tx.tableF, h.1, if_neg (by decide), if_neg (by rw [h.sees, seesF_name ho1 (by decide +kernel)]; decide)]
    obtain ⟨h1, h2⟩ := column_go (most := 10) (l := l) h ho1 hd.1 (by simp at hm; omega)
    obtain ⟨h3, h4⟩ := kind_go h2 ho2
    have h5 := must_go [(⟨#[44]⟩ : ByteArray)] h4
    simp only
    rw [h1, h3]
    have hlast : (l ++ [c.name]).getLastD ⟨#[]⟩ = c.name := by simp
    rw [hlast]
    obtain ⟨e1, e2, e3⟩ := tableF_go D n _ (l ++ [c.name]) (C ++ [⟨c.name, c.ty⟩]) R (by simpa using hn) h5 (fun x hx => hok x (List.mem_cons_of_mem _ hx)) hd.2 (by simpa using hm)
    exact ⟨by rw [e1]; simp, by rw [e2]; simp, e3⟩
theorem colT_len (D : List Cl) : (D.flatMap colT).length = 3 * D.length := by
  induction D with
  | nil => rfl
  | cons a r ih => rw [List.flatMap_cons, List.length_append, ih]; simp [colT]; omega
theorem table_go {σ : Ps} {nm : ByteArray} {C : List Cl} {pk ck : ByteArray} {R : List To} (hok : tableOK nm C pk ck) (h : Cur X σ (tableT nm C pk ck ++ R)) : (X.table σ).1 = tableX nm C pk ck ∧ Cur X (X.table σ).2 R := by
  obtain ⟨o1, o2, o3, o4, o5, o6, o7⟩ := hok
  have ho : ∀ s ∈ C.map Cl.name, nameOK s := by
    intro s hs
    obtain ⟨c, hc, rfl⟩ := List.mem_map.1 hs
    exact (o2 c hc).1
  have hlen := h.len
  replace h : Cur X σ (tokN nm :: ([(⟨#[40]⟩ : ByteArray)].map tokW ++ (C.flatMap colT ++ tokW (⟨#[112, 114, 105, 109, 97, 114, 121]⟩ : ByteArray) :: ([(⟨#[107, 101, 121]⟩ : ByteArray), (⟨#[40]⟩ : ByteArray)].map tokW ++ (tokN pk :: ([(⟨#[44]⟩ : ByteArray)].map tokW ++ (tokN ck :: ([(⟨#[41]⟩ : ByteArray), (⟨#[41]⟩ : ByteArray)].map tokW ++ R)))))))) := by
    simpa [tableT] using h
  obtain ⟨h1, h2⟩ := name_go h o1
  have h3 := must_go _ h2
  have hl3 := h3.len
  simp only [List.length_append, colT_len] at hl3
  obtain ⟨h4, h5, h6⟩ := tableF_go C (X.T.length + 1) _ [] [] _ (by omega) h3 o2 o3 (by simpa using o4)
  rw [List.nil_append] at h4 h5
  have h7 := must_go _ h6
  rw [← h4] at o5 o6
  obtain ⟨h8, h9⟩ := one_go h7 (ho pk (by rw [← h4]; exact o5)) o5 (nameOK_ne (ho pk (by rw [← h4]; exact o5)))
  have h10 := must_go _ h9
  obtain ⟨h11, h12⟩ := one_go (but := pk) h10 (ho ck (by rw [← h4]; exact o6)) o6 o7
  have h13 := must_go _ h12
  unfold Tx.table
  simp only
  rw [h8]
  refine ⟨?_, h13⟩
  rw [h11, h5, h1]; rfl
theorem view_go {σ : Ps} {nm : ByteArray} {cols : List ByteArray} {o on p q : ByteArray} {R : List To} (hok : viewOK nm cols o on p q) (h : Cur X σ (viewT nm cols o on p q ++ R)) : (X.view σ).1 = viewX nm cols o on p q ∧ Cur X (X.view σ).2 R := by
  obtain ⟨o1, o2, o3, o4, o5, o6⟩ := hok
  replace h : Cur X σ ([(⟨#[118, 105, 101, 119]⟩ : ByteArray)].map tokW ++ (tokN nm :: ([(⟨#[97, 115]⟩ : ByteArray), (⟨#[115, 101, 108, 101, 99, 116]⟩ : ByteArray)].map tokW ++ (someT cols ++ ([(⟨#[102, 114, 111, 109]⟩ : ByteArray)].map tokW ++ (tokN o :: ([(⟨#[119, 104, 101, 114, 101]⟩ : ByteArray)].map tokW ++ (tokN on :: ([(⟨#[105, 115]⟩ : ByteArray), (⟨#[110, 111, 116]⟩ : ByteArray), (⟨#[110, 117, 108, 108]⟩ : ByteArray), (⟨#[112, 114, 105, 109, 97, 114, 121]⟩ : ByteArray), (⟨#[107, 101, 121]⟩ : ByteArray), (⟨#[40]⟩ : ByteArray)].map tokW ++ (tokN on :: ([(⟨#[44]⟩ : ByteArray)].map tokW ++ (tokN p :: ([(⟨#[44]⟩ : ByteArray)].map tokW ++ (tokN q :: ([(⟨#[41]⟩ : ByteArray)].map tokW ++ R))))))))))))))) := by
    simpa [viewT] using h
  have h1 := must_go _ h
  obtain ⟨h2, h3⟩ := name_go h1 o1
  have h4 := must_go _ h3
  obtain ⟨h5, h6⟩ := some_go o2 h4 (by rw [List.map_cons, List.cons_append, seesF_W]; decide)
  have h7 := must_go _ h6
  obtain ⟨h8, h9⟩ := name_go h7 o3
  have h10 := must_go _ h9
  obtain ⟨h11, h12⟩ := name_go h10 o4
  have h13 := must_go _ h12
  obtain ⟨h14, h15⟩ := one_go (l := [on]) (but := ⟨#[]⟩) h13 o4 (by simp) (nameOK_ne o4)
  have h16 := must_go _ h15
  obtain ⟨h17, h18⟩ := name_go h16 o5
  have h19 := must_go _ h18
  obtain ⟨h20, h21⟩ := name_go h19 o6
  have h22 := must_go _ h21
  unfold Tx.view
  simp only
  rw [h11]
  exact ⟨by rw [h2, h5, h8, h17, h20]; rfl, h22⟩
theorem index_go {σ : Ps} {nm o on : ByteArray} {R : List To} (hok : nameOK nm ∧ nameOK o ∧ nameOK on) (h : Cur X σ (indexT nm o on ++ R)) : (X.index σ).1 = indexX nm o on ∧ Cur X (X.index σ).2 R := by
  obtain ⟨o1, o2, o3⟩ := hok
  replace h : Cur X σ ([(⟨#[105, 110, 100, 101, 120]⟩ : ByteArray)].map tokW ++ (tokN nm :: ([(⟨#[111, 110]⟩ : ByteArray)].map tokW ++ (tokN o :: ([(⟨#[40]⟩ : ByteArray)].map tokW ++ (tokN on :: ([(⟨#[41]⟩ : ByteArray)].map tokW ++ R))))))) := h
  have h1 := must_go _ h
  obtain ⟨h2, h3⟩ := name_go h1 o1
  have h4 := must_go _ h3
  obtain ⟨h5, h6⟩ := name_go h4 o2
  have h7 := must_go _ h6
  obtain ⟨h8, h9⟩ := name_go h7 o3
  have h10 := must_go _ h9
  unfold Tx.index
  exact ⟨by simp only; rw [h2, h5, h8]; rfl, h10⟩
theorem valuesF_go : ∀ (r : List Tm) (n : Nat) (σ : Ps) (l : List Tm) (R : List To), r.length ≤ n → Cur X σ (commaV r ++ R) → seesF R (⟨#[44]⟩ : ByteArray) = false → (∀ t ∈ r, termOK t) →
    (X.valuesF n σ l).1 = l ++ r ∧ Cur X (X.valuesF n σ l).2 R
  | [], 0, σ, l, R, _, h, _, _ => ⟨by simp [Tx.valuesF], h⟩
  | [], n + 1, σ, l, R, _, h, hR, _ => by
    rw [Tx.valuesF, if_neg (by rw [h.sees]; simp [commaV, hR])]
    exact ⟨by simp, h⟩
  | s :: r, 0, _, _, _, hn, _, _, _ => absurd hn (by simp)
  | s :: r, n + 1, σ, l, R, hn, h, hR, hok => by
    replace h : Cur X σ (tokW (⟨#[44]⟩ : ByteArray) :: tokT s :: (commaV r ++ R)) := by simpa [commaV] using h
    rw [Tx.valuesF, if_pos (by rw [h.sees, seesF_W]; rfl)]
    simp only
    obtain ⟨h1, h2⟩ := value_go h.step (hok s (List.mem_cons_self ..))
    rw [h1]
    obtain ⟨h3, h4⟩ := valuesF_go r n _ (l ++ [s]) R (by simpa using hn) h2 hR (fun x hx => hok x (List.mem_cons_of_mem _ hx))
    exact ⟨by rw [h3]; simp, h4⟩
theorem commaV_len (r : List Tm) : (commaV r).length = 2 * r.length := by
  induction r with
  | nil => rfl
  | cons a r ih => unfold commaV at ih ⊢; rw [List.flatMap_cons, List.length_append, ih]; simp; omega
def FinR (R : List To) : Prop := ∀ w, w ≠ (⟨#[59]⟩ : ByteArray) → seesF R w = false
theorem fin_nil : FinR [] := fun _ _ => rfl
theorem fin_semi (R : List To) : FinR (tokW (⟨#[59]⟩ : ByteArray) :: R) := fun w hw => by
  rw [seesF_W]
  cases hq : bEq (⟨#[59]⟩ : ByteArray) w with
  | false => rfl
  | true => exact absurd (bEq_iff.1 hq).symm hw
theorem insert_go {σ : Ps} {o : ByteArray} {c : List ByteArray} {v : List Tm} {stamp ttl : Int} {R : List To} (hok : insertOK o c v stamp ttl) (h : Cur X σ (insertT o c v stamp ttl ++ R)) (hR : FinR R) : (X.insert σ).1 = insertX o c v stamp ttl ∧ Cur X (X.insert σ).2 R := by
  obtain ⟨o1, o2, o3, o4, o5, o6⟩ := hok
  obtain ⟨v0, v1, rfl⟩ : ∃ v0 v1, v = v0 :: v1 := by
    cases v with
    | nil => cases c with | nil => exact absurd rfl o2 | cons a c => exact absurd o4 (by simp)
    | cons a v => exact ⟨a, v, rfl⟩
  replace h : Cur X σ ([(⟨#[105, 110, 116, 111]⟩ : ByteArray)].map tokW ++ (tokN o :: ([(⟨#[40]⟩ : ByteArray)].map tokW ++ (colsT c ++ ([(⟨#[41]⟩ : ByteArray), (⟨#[118, 97, 108, 117, 101, 115]⟩ : ByteArray), (⟨#[40]⟩ : ByteArray)].map tokW ++ (tokT v0 :: (commaV v1 ++ ([(⟨#[41]⟩ : ByteArray)].map tokW ++ (usingT stamp ttl ++ R))))))))) := by
    simpa [insertT, valsT] using h
  have h1 := must_go _ h
  obtain ⟨h2, h3⟩ := name_go h1 o1
  have h4 := must_go _ h3
  obtain ⟨h5, h6⟩ := columns_go o2 o3 h4 (by rw [List.map_cons, List.cons_append, seesF_W]; decide)
  have h7 := must_go _ h6
  obtain ⟨h8, h9⟩ := value_go h7 (o5 v0 (List.mem_cons_self ..))
  have hl := h9.len
  simp only [List.length_append, commaV_len] at hl
  obtain ⟨h10, h11⟩ := valuesF_go v1 X.T.length _ [v0] _ (by omega) h9 (by rw [List.map_cons, List.cons_append, seesF_W]; decide) (fun x hx => o5 x (List.mem_cons_of_mem _ hx))
  have h12 := must_go _ h11
  unfold Tx.insert
  simp only
  rw [h8, h10, h5]
  rw [if_neg (by rw [show [v0] ++ v1 = v0 :: v1 from rfl, o4]; simp)]
  obtain ⟨h13, h14⟩ := using_go (b := true) (x := { Sx.zero with kind := 5, of_ := o, sets := List.zipWith Pr.mk c (v0 :: v1) }) ⟨rfl, rfl⟩ o6 h12 (hR _ (by decide)) (hR _ (by decide))
  rw [h2]
  exact ⟨h13, h14⟩
theorem setsF_go : ∀ (r : List Pr) (n : Nat) (σ : Ps) (l : List ByteArray) (Z : List Pr) (R : List To), r ≠ [] → r.length ≤ n → Cur X σ (setsT r ++ R) → seesF R (⟨#[44]⟩ : ByteArray) = false → (∀ p ∈ r, pairOK p) → distF l (r.map Pr.name) → (l ++ r.map Pr.name).length ≤ 8 →
    (X.setsF n σ l Z).1 = Z ++ r ∧ Cur X (X.setsF n σ l Z).2 R
  | [], _, _, _, _, _, hne, _, _, _, _, _, _ => absurd rfl hne
  | p :: r, 0, _, _, _, _, _, hn, _, _, _, _, _ => absurd hn (by simp)
  | p :: r, n + 1, σ, l, Z, R, _, hn, h, hR, hok, hd, hm => by
    obtain ⟨ho1, ho2⟩ := hok p (List.mem_cons_self ..)
    have hlast : (l ++ [p.name]).getLastD ⟨#[]⟩ = p.name := by simp
    rw [Tx.setsF]
    try simp only
    cases r with
    | nil =>
      replace h : Cur X σ (tokN p.name :: tokW (⟨#[61]⟩ : ByteArray) :: tokT p.t :: R) := h
      obtain ⟨h1, h2⟩ := column_go (most := 8) (l := l) h ho1 hd.1 (by simp at hm; omega)
      have h3 := must_go [(⟨#[61]⟩ : ByteArray)] h2
      obtain ⟨h4, h5⟩ := value_go h3 ho2
      rw [if_neg (by rw [h5.sees, hR]; decide), h1, h4, hlast]
      exact ⟨rfl, h5⟩
    | cons q r =>
      rw [setsT_cons p (q :: r) (by simp)] at h
      replace h : Cur X σ (tokN p.name :: tokW (⟨#[61]⟩ : ByteArray) :: tokT p.t :: tokW (⟨#[44]⟩ : ByteArray) :: (setsT (q :: r) ++ R)) := by simpa [pairT] using h
      obtain ⟨h1, h2⟩ := column_go (most := 8) (l := l) h ho1 hd.1 (by simp at hm; omega)
      have h3 := must_go [(⟨#[61]⟩ : ByteArray)] h2
      obtain ⟨h4, h5⟩ := value_go h3 ho2
      rw [if_pos (by rw [h5.sees, seesF_W]; rfl), h1, h4, hlast]
      obtain ⟨h6, h7⟩ := setsF_go (q :: r) n _ (l ++ [p.name]) (Z ++ [⟨p.name, p.t⟩]) R (by simp) (by simpa using hn) h5.step hR (fun x hx => hok x (List.mem_cons_of_mem _ hx)) hd.2 (by simpa using hm)
      exact ⟨by rw [h6]; simp, h7⟩
theorem setsT_len (r : List Pr) : r.length ≤ (setsT r).length := by
  induction r with
  | nil => exact Nat.le_refl _
  | cons p r ih =>
    by_cases h : r = []
    · subst h; simp [setsT, pairT]
    · rw [setsT_cons p r h]; simp [pairT]; omega
theorem update_go {σ : Ps} {o : ByteArray} {stamp ttl : Int} {sets wher : List Pr} {R : List To} (hok : updateOK o stamp ttl sets wher) (h : Cur X σ (updateT o stamp ttl sets wher ++ R)) (hR : FinR R) : (X.update σ).1 = updateX o stamp ttl sets wher ∧ Cur X (X.update σ).2 R := by
  obtain ⟨o1, o2, ⟨o3, o4, o5, o6⟩, o7⟩ := hok
  replace h : Cur X σ (tokN o :: (usingT stamp ttl ++ ([(⟨#[115, 101, 116]⟩ : ByteArray)].map tokW ++ (setsT sets ++ (whereT wher ++ R))))) := by
    simpa [updateT] using h
  obtain ⟨h1, h2⟩ := name_go h o1
  obtain ⟨h3, h4⟩ := using_go (b := true) (x := { Sx.zero with kind := 6, of_ := o }) ⟨rfl, rfl⟩ o2 h2 (by rw [List.map_cons, List.cons_append, seesF_W]; decide) (by rw [List.map_cons, List.cons_append, seesF_W]; decide)
  have h5 := must_go _ h4
  have hl := h5.len
  have := setsT_len sets
  simp only [List.length_append] at hl
  obtain ⟨h6, h7⟩ := setsF_go sets (X.T.length + 1) _ [] [] _ o3 (by omega) h5 (by unfold whereT; rw [List.cons_append, seesF_W]; decide) o4 o5 (by simpa using o6)
  obtain ⟨h8, h9⟩ := where_go o7 h7 (hR _ (by decide))
  unfold Tx.update
  simp only
  rw [h1]
  refine ⟨?_, h9⟩
  rw [h8, h3, h6]; rfl
theorem remove_go {σ : Ps} {cols : List ByteArray} {o : ByteArray} {stamp : Int} {wher : List Pr} {R : List To} (hok : removeOK cols o stamp wher) (h : Cur X σ (removeT cols o stamp wher ++ R)) (hR : FinR R) : (X.remove σ).1 = removeX cols o stamp wher ∧ Cur X (X.remove σ).2 R := by
  obtain ⟨o1, o2, o3, o4⟩ := hok
  replace h : Cur X σ (colsT cols ++ ([(⟨#[102, 114, 111, 109]⟩ : ByteArray)].map tokW ++ (tokN o :: (usingT stamp 0 ++ (whereT wher ++ R))))) := by
    simpa [removeT] using h
  have hc : (if X.sees σ (⟨#[102, 114, 111, 109]⟩ : ByteArray) = true then ([], σ) else X.columns σ 8).1 = cols ∧ Cur X (if X.sees σ (⟨#[102, 114, 111, 109]⟩ : ByteArray) = true then ([], σ) else X.columns σ 8).2 ([(⟨#[102, 114, 111, 109]⟩ : ByteArray)].map tokW ++ (tokN o :: (usingT stamp 0 ++ (whereT wher ++ R)))) := by
    cases cols with
    | nil =>
      replace h : Cur X σ ([(⟨#[102, 114, 111, 109]⟩ : ByteArray)].map tokW ++ (tokN o :: (usingT stamp 0 ++ (whereT wher ++ R)))) := h
      rw [if_pos (by rw [h.sees, List.map_cons, List.cons_append, seesF_W]; rfl)]
      exact ⟨rfl, h⟩
    | cons a c =>
      rw [if_neg]
      · exact columns_go (by simp) o1 h (by rw [List.map_cons, List.cons_append, seesF_W]; decide)
      · rw [h.sees]
        show ¬ seesF (tokN a :: _) _ = true
        rw [seesF_name (o1.1 a (List.mem_cons_self ..)) (by decide +kernel)]
        decide
  obtain ⟨h1, h2⟩ := hc
  have h3 := must_go _ h2
  obtain ⟨h4, h5⟩ := name_go h3 o2
  obtain ⟨h6, h7⟩ := using_go (b := false) (x := { Sx.zero with kind := 7, cols := cols, of_ := o }) ⟨rfl, rfl⟩ o3 h5 (by unfold whereT; rw [List.cons_append, seesF_W]; decide) (by unfold whereT; rw [List.cons_append, seesF_W]; decide)
  obtain ⟨h8, h9⟩ := where_go o4 h7 (hR _ (by decide))
  unfold Tx.remove
  simp only
  rw [h1, h4]
  refine ⟨?_, h9⟩
  rw [h8, h6]; rfl
theorem ask_go {σ : Ps} {cols : List ByteArray} {o : ByteArray} {wher : List Pr} {limit : Int} {R : List To} (hok : askOK cols o wher limit) (h : Cur X σ (askT cols o wher limit ++ R)) (hR : FinR R) : (X.ask σ).1 = askX cols o wher limit ∧ Cur X (X.ask σ).2 R := by
  obtain ⟨o1, o2, o3, o4⟩ := hok
  replace h : Cur X σ (someT cols ++ ([(⟨#[102, 114, 111, 109]⟩ : ByteArray)].map tokW ++ (tokN o :: (whereT wher ++ (limitT limit ++ R))))) := by
    simpa [askT] using h
  obtain ⟨h1, h2⟩ := some_go o1 h (by rw [List.map_cons, List.cons_append, seesF_W]; decide)
  have h3 := must_go _ h2
  obtain ⟨h4, h5⟩ := name_go h3 o2
  unfold Tx.ask
  simp only
  by_cases hl : limit = 0
  · subst hl
    obtain ⟨h6, h7⟩ := where_go o3 h5 (hR _ (by decide))
    replace h7 : Cur X _ R := h7
    rw [if_neg (by rw [h7.sees, hR _ (by decide)]; decide)]
    exact ⟨by rw [h1, h4, h6]; rfl, h7⟩
  · have hc : countOK limit := by rcases o4 with h | h; exact absurd h hl; exact h
    unfold limitT at h5
    rw [if_neg hl] at h5
    obtain ⟨h6, h7⟩ := where_go o3 h5 (by rw [List.cons_append, seesF_W]; decide)
    replace h7 : Cur X _ (tokW (⟨#[108, 105, 109, 105, 116]⟩ : ByteArray) :: tokC limit :: R) := h7
    obtain ⟨h8, h9⟩ := count_go h7.step hc
    rw [if_pos (by rw [h7.sees, seesF_W]; rfl)]
    exact ⟨by rw [h1, h4, h6, h8]; rfl, h9⟩
theorem GC_head {x : Sx} {L : List To} (h : GC x L) : ∃ w L', L = tokW w :: L' ∧ (w = (⟨#[105, 110, 115, 101, 114, 116]⟩ : ByteArray) ∨ w = (⟨#[117, 112, 100, 97, 116, 101]⟩ : ByteArray) ∨ w = (⟨#[100, 101, 108, 101, 116, 101]⟩ : ByteArray)) := by
  cases h with
  | insert => exact ⟨_, _, rfl, .inl rfl⟩
  | update => exact ⟨_, _, rfl, .inr (.inl rfl)⟩
  | remove => exact ⟨_, _, rfl, .inr (.inr rfl)⟩
theorem change_go (n : Nat) {σ : Ps} {x : Sx} {L R : List To} (hG : GC x L) (h : Cur X σ (L ++ R)) (hR : FinR R) : (X.stF (n + 1) σ).1 = .change x ∧ Cur X (X.stF (n + 1) σ).2 R := by
  rw [Tx.stF]
  cases hG with
  | insert o c v a b ho =>
    rw [List.cons_append] at h
    obtain ⟨h1, h2⟩ := insert_go ho h.step hR
    rw [if_pos (by rw [h.sees, seesF_W]; rfl)]
    exact ⟨by simp only; rw [h1], h2⟩
  | update o a b c v ho =>
    rw [List.cons_append] at h
    obtain ⟨h1, h2⟩ := update_go ho h.step hR
    rw [if_neg (by rw [h.sees, seesF_W]; decide), if_pos (by rw [h.sees, seesF_W]; rfl)]
    exact ⟨by simp only; rw [h1], h2⟩
  | remove o a b c ho =>
    rw [List.cons_append] at h
    obtain ⟨h1, h2⟩ := remove_go ho h.step hR
    rw [if_neg (by rw [h.sees, seesF_W]; decide), if_neg (by rw [h.sees, seesF_W]; decide), if_pos (by rw [h.sees, seesF_W]; rfl)]
    exact ⟨by simp only; rw [h1], h2⟩
theorem plain_go (n : Nat) {σ : Ps} {x : Sx} {L R : List To} (hG : GP x L) (h : Cur X σ (L ++ R)) (hR : FinR R) : (X.stF (n + 1) σ).1 = .plain x ∧ Cur X (X.stF (n + 1) σ).2 R := by
  rw [Tx.stF]
  cases hG with
  | ask o a b c ho =>
    rw [List.cons_append] at h
    obtain ⟨h1, h2⟩ := ask_go ho h.step hR
    rw [if_neg (by rw [h.sees, seesF_W]; decide), if_neg (by rw [h.sees, seesF_W]; decide), if_neg (by rw [h.sees, seesF_W]; decide), if_pos (by rw [h.sees, seesF_W]; rfl)]
    exact ⟨by simp only; rw [h1], h2⟩
  | drop nm ho =>
    rw [List.cons_append] at h
    obtain ⟨h1, h2⟩ := name_go h.step ho
    rw [if_neg (by rw [h.sees, seesF_W]; decide), if_neg (by rw [h.sees, seesF_W]; decide), if_neg (by rw [h.sees, seesF_W]; decide), if_neg (by rw [h.sees, seesF_W]; decide), if_neg (by rw [h.sees, seesF_W]; decide), if_pos (by rw [h.sees, seesF_W]; rfl)]
    exact ⟨by simp only; rw [h1], h2⟩
  | table nm C pk ck ho =>
    rw [List.cons_append, List.cons_append] at h
    obtain ⟨h1, h2⟩ := table_go ho h.step.step
    rw [if_neg (by rw [h.sees, seesF_W]; decide), if_neg (by rw [h.sees, seesF_W]; decide), if_neg (by rw [h.sees, seesF_W]; decide), if_neg (by rw [h.sees, seesF_W]; decide), if_neg (by rw [h.sees, seesF_W]; decide), if_neg (by rw [h.sees, seesF_W]; decide), if_pos (by rw [h.sees, seesF_W]; rfl), if_pos (by rw [h.step.sees, seesF_W]; rfl)]
    exact ⟨by simp only; rw [h1], h2⟩
  | view nm c o on p q ho =>
    rw [List.cons_append, List.cons_append] at h
    obtain ⟨h1, h2⟩ := view_go ho h.step.step
    rw [if_neg (by rw [h.sees, seesF_W]; decide), if_neg (by rw [h.sees, seesF_W]; decide), if_neg (by rw [h.sees, seesF_W]; decide), if_neg (by rw [h.sees, seesF_W]; decide), if_neg (by rw [h.sees, seesF_W]; decide), if_neg (by rw [h.sees, seesF_W]; decide), if_pos (by rw [h.sees, seesF_W]; rfl), if_neg (by rw [h.step.sees, seesF_W]; decide), if_pos (by rw [h.step.sees, seesF_W]; rfl)]
    exact ⟨by simp only; rw [h1], h2⟩
  | index nm o on ho =>
    rw [List.cons_append] at h
    obtain ⟨h1, h2⟩ := index_go ho h.step
    have h3 := h.step
    unfold indexT at h3
    rw [List.cons_append] at h3
    rw [if_neg (by rw [h.sees, seesF_W]; decide), if_neg (by rw [h.sees, seesF_W]; decide), if_neg (by rw [h.sees, seesF_W]; decide), if_neg (by rw [h.sees, seesF_W]; decide), if_neg (by rw [h.sees, seesF_W]; decide), if_neg (by rw [h.sees, seesF_W]; decide), if_pos (by rw [h.sees, seesF_W]; rfl), if_neg (by rw [h3.sees, seesF_W]; decide), if_neg (by rw [h3.sees, seesF_W]; decide)]
    exact ⟨by simp only; rw [h1], h2⟩
theorem manyF_go {st : Ps → Tx.Nd × Ps} (hst : ∀ σ x L R, GC x L → Cur X σ (L ++ R) → FinR R → (st σ).1 = .change x ∧ Cur X (st σ).2 R) : ∀ (D : List Sx) (M : List To) (n : Nat) (σ : Ps) (l : List Sx) (R : List To), GB D M → D.length < n → (l ++ D).length ≤ 8 → l ++ D ≠ [] → Cur X σ (M ++ tokW (⟨#[97, 112, 112, 108, 121]⟩ : ByteArray) :: R) →
    (X.manyF st n σ l).1 = l ++ D ∧ Cur X (X.manyF st n σ l).2 R
  | [], M, 0, _, _, _, _, hn, _, _, _ => absurd hn (by simp)
  | x :: D, M, 0, _, _, _, _, hn, _, _, _ => absurd hn (by simp)
  | [], M, n + 1, σ, l, R, hG, _, _, hne, h => by
    cases hG
    replace h : Cur X σ (tokW (⟨#[97, 112, 112, 108, 121]⟩ : ByteArray) :: R) := h
    rw [List.append_nil] at hne ⊢
    have he : l.isEmpty = false := by cases l with | nil => exact absurd rfl hne | cons a l => rfl
    rw [Tx.manyF, h.1, if_neg (by decide), he, if_pos (by rw [h.sees, seesF_W]; rfl)]
    exact ⟨rfl, h.step⟩
  | x :: D, M, n + 1, σ, l, R, hG, hn, hl, _, h => by
    cases hG with
    | @cons _ L _ M hx hD =>
      rw [List.append_assoc, List.cons_append] at h
      obtain ⟨w, L', rfl, hw⟩ := GC_head hx
      have hna : X.sees σ (⟨#[97, 112, 112, 108, 121]⟩ : ByteArray) = false := by
        rw [List.cons_append] at h
        rw [h.sees, seesF_W]
        rcases hw with rfl | rfl | rfl <;> decide
      simp at hl
      rw [Tx.manyF, h.1, if_neg (by decide), hna, Bool.and_false, if_neg (by decide)]
      simp only
      rw [if_neg (by omega)]
      obtain ⟨h1, h2⟩ := hst σ x _ _ hx h (fin_semi _)
      rw [h1]
      simp only
      obtain ⟨h3, h4⟩ := manyF_go hst D M n _ (l ++ [x]) R hD (by simpa using hn) (by simp; omega) (by simp) (must_go [(⟨#[59]⟩ : ByteArray)] h2)
      exact ⟨by rw [h3]; simp, h4⟩
theorem stF_go (n : Nat) {σ : Ps} {nd : Tx.Nd} {L R : List To} (hG : GN nd L) (h : Cur X σ (L ++ R)) (hR : FinR R) : (X.stF (n + 2) σ).1 = nd ∧ Cur X (X.stF (n + 2) σ).2 R := by
  cases hG with
  | plain hG => exact plain_go (n + 1) hG h hR
  | change hG => exact change_go (n + 1) hG h hR
  | @batch l L hG h1 h2 =>
    replace h : Cur X σ (tokW (⟨#[98, 101, 103, 105, 110]⟩ : ByteArray) :: ([(⟨#[98, 97, 116, 99, 104]⟩ : ByteArray)].map tokW ++ (L ++ tokW (⟨#[97, 112, 112, 108, 121]⟩ : ByteArray) :: ([(⟨#[98, 97, 116, 99, 104]⟩ : ByteArray)].map tokW ++ R)))) := by simpa using h
    have h3 := must_go _ h.step
    obtain ⟨h4, h5⟩ := manyF_go (fun σ x L R hx hc hf => change_go n hx hc hf) l L 10 _ [] _ hG (by omega) (by simpa using h2) (by simpa using h1) h3
    have h6 := must_go _ h5
    rw [Tx.stF, if_neg (by rw [h.sees, seesF_W]; decide), if_neg (by rw [h.sees, seesF_W]; decide), if_neg (by rw [h.sees, seesF_W]; decide), if_neg (by rw [h.sees, seesF_W]; decide), if_pos (by rw [h.sees, seesF_W]; rfl)]
    unfold Tx.many
    simp only
    exact ⟨by rw [h4]; rfl, h6⟩
end

end Cle
end Go.Proofs.YtfbgdjcnlnfoaaaGreatDoor

namespace Go.Proofs.YtfbgdjcnlnfoaaaGreatDoor
namespace Cle

theorem decN_cut (n b0 b1 b2 b3 c1 c2 c3 w : Nat) (hw : (Lib.decodeN n b0 b1 b2 b3).2 = w) (h1 : 1 < w → c1 = b1) (h2 : 2 < w → c2 = b2) (h3 : 3 < w → c3 = b3)
    (hok : (Lib.decodeN n b0 b1 b2 b3).1 ≠ 65533 ∨ 1 < (Lib.decodeN n b0 b1 b2 b3).2) : Lib.decodeN w b0 c1 c2 c3 = Lib.decodeN n b0 b1 b2 b3 := by
  unfold Lib.decodeN at hok hw ⊢
  by_cases a1 : b0 < 128
  · rw [if_pos a1, if_pos a1]
  · rw [if_neg a1] at hok hw
    rw [if_neg a1, if_neg a1]
    by_cases a2 : b0 / 32 = 6 ∧ (1 < n ∧ b1 / 64 = 2)
    · rw [if_pos a2] at hok hw
      by_cases q : b0 % 32 * 64 + b1 % 64 ≥ 128
      · rw [if_pos q] at hw
        simp only at hw
        obtain rfl := h1 (by omega)
        rw [if_pos a2, if_pos ⟨a2.1, by omega, a2.2.2⟩]
      · rw [if_neg q] at hok; simp at hok
    · rw [if_neg a2] at hok hw
      by_cases a3 : b0 / 16 = 14 ∧ (1 < n ∧ b1 / 64 = 2) ∧ (2 < n ∧ b2 / 64 = 2)
      · rw [if_pos a3] at hok hw
        by_cases q : b0 % 16 * 4096 + b1 % 64 * 64 + b2 % 64 ≥ 2048 ∧ (b0 % 16 * 4096 + b1 % 64 * 64 + b2 % 64 < 55296 ∨ (57344 ≤ b0 % 16 * 4096 + b1 % 64 * 64 + b2 % 64 ∧ b0 % 16 * 4096 + b1 % 64 * 64 + b2 % 64 ≤ 1114111))
        · rw [if_pos q] at hw
          simp only at hw
          obtain rfl := h1 (by omega)
          obtain rfl := h2 (by omega)
          rw [if_neg a2, if_pos a3, if_neg (by omega), if_pos ⟨a3.1, ⟨by omega, a3.2.1.2⟩, ⟨by omega, a3.2.2.2⟩⟩]
        · rw [if_neg q] at hok; simp at hok
      · rw [if_neg a3] at hok hw
        by_cases a4 : b0 / 8 = 30 ∧ (1 < n ∧ b1 / 64 = 2) ∧ (2 < n ∧ b2 / 64 = 2) ∧ (3 < n ∧ b3 / 64 = 2)
        · rw [if_pos a4] at hok hw
          by_cases q : b0 % 8 * 262144 + b1 % 64 * 4096 + b2 % 64 * 64 + b3 % 64 ≥ 65536 ∧ (b0 % 8 * 262144 + b1 % 64 * 4096 + b2 % 64 * 64 + b3 % 64 < 55296 ∨ (57344 ≤ b0 % 8 * 262144 + b1 % 64 * 4096 + b2 % 64 * 64 + b3 % 64 ∧ b0 % 8 * 262144 + b1 % 64 * 4096 + b2 % 64 * 64 + b3 % 64 ≤ 1114111))
          · rw [if_pos q] at hw
            simp only at hw
            obtain rfl := h1 (by omega)
            obtain rfl := h2 (by omega)
            obtain rfl := h3 (by omega)
            rw [if_neg a2, if_neg a3, if_pos a4, if_neg (by omega), if_neg (by omega), if_pos ⟨a4.1, ⟨by omega, a4.2.1.2⟩, ⟨by omega, a4.2.2.1.2⟩, ⟨by omega, a4.2.2.2.2⟩⟩]
          · rw [if_neg q] at hok; simp at hok
        · rw [if_neg a4] at hok; simp at hok

theorem bY_take (s : ByteArray) (n k : Nat) (hk : k < n) (hn : n ≤ s.size) : bY (s.extract 0 n) k = bY s k := by
  have h1 : k < (s.extract 0 n).size := by rw [ByteArray.size_extract]; omega
  rw [← bY_eq _ k h1, ← bY_eq s k (by omega)]
  congr 1
  rw [ByteArray.getElem_extract]
  simp
theorem split_at (s : ByteArray) (n : Nat) (_hn : n ≤ s.size) : s = s.extract 0 n ++ s.extract n s.size := by
  apply ByteArray.ext
  apply Array.ext'
  simp only [ByteArray.data_extract, ByteArray.data_append, Array.toList_extract, Array.toList_append, List.extract_eq_take_drop, List.drop_zero, Nat.sub_zero]
  rw [List.take_of_length_le (l := s.data.toList.drop n) (by simp)]
  exact (List.take_append_drop n _).symm

theorem valid_ind {C : ByteArray → Prop} (nil : C ⟨#[]⟩)
    (cons : ∀ c t, valid c = true → (pts c).length = 1 → ((∃ b : UInt8, c = ⟨#[b]⟩ ∧ b.toNat < 128) ∨ (∀ b ∈ c.data.toList, 128 ≤ b.toNat)) → valid t = true → C t → C (c ++ t)) :
    ∀ (n : Nat) (s : ByteArray), s.size ≤ n → valid s = true → C s := by
  intro n
  induction n with
  | zero =>
    intro s hs _
    have : s = ⟨#[]⟩ := by
      apply ByteArray.ext
      exact Array.eq_empty_of_size_eq_zero (by show s.size = 0; omega)
    rw [this]; exact nil
  | succ n ih =>
    intro s hs hv
    by_cases h0 : s.size = 0
    · exact ih s (by omega) hv
    · have hlt : 0 < s.size := by omega
      have hw := width_pos s 0 hlt
      have hl := width_le s 0 hlt
      have hall : (ptsAt s 0).all Pt.ok = true := by rw [← pts_eq]; exact hv
      rw [ptsAt_step s 0 hlt, List.all_cons, Bool.and_eq_true] at hall
      have hok := (ok_iff s 0).1 hall.1
      obtain ⟨w, hwd⟩ : ∃ w, (Utf8.decode s 0).2 = w := ⟨_, rfl⟩
      rw [hwd] at hw hl
      rw [Nat.zero_add] at hl
      have hcs : (s.extract 0 w).size = w := by rw [ByteArray.size_extract]; omega
      have hf := dec_facts s 0 hlt
      have hbd : (Utf8.decode s 0).2 ≤ 4 := by
        rw [dec_bY]
        rcases decN_facts (s.size - 0) (bY s 0) (bY s (0 + 1)) (bY s (0 + 2)) (bY s (0 + 3)) (by omega) with h1 | ⟨_, _, _, h4, _⟩ <;> omega
      have hdec : Utf8.decode (s.extract 0 w) 0 = Utf8.decode s 0 := by
        rw [dec_bY, dec_bY s 0, hcs, Nat.sub_zero]
        rw [dec_bY] at hok hwd
        rw [bY_take s w 0 (by omega) (by omega)]
        exact decN_cut (s.size - 0) (bY s 0) (bY s (0 + 1)) (bY s (0 + 2)) (bY s (0 + 3)) _ _ _ w hwd (fun h => bY_take s w 1 (by omega) (by omega)) (fun h => bY_take s w 2 (by omega) (by omega)) (fun h => bY_take s w 3 (by omega) (by omega)) hok
      have hpc : pts (s.extract 0 w) = [⟨(Utf8.decode s 0).1, 0, w⟩] := by
        rw [pts_eq, ptsAt_step _ 0 (by omega), hdec, hwd, ptsAt_end _ _ (by omega)]
      have hvc : valid (s.extract 0 w) = true := by
        unfold valid
        rw [hpc]
        have := hall.1
        rw [hwd] at this
        simp [this]
      have hvt : valid (s.extract w s.size) = true := by
        have := valid_app (s.extract 0 w) (s.extract w s.size) hvc
        rw [← split_at s w (by omega), hv] at this
        exact this.symm
      have hcases : (∃ b : UInt8, s.extract 0 w = ⟨#[b]⟩ ∧ b.toNat < 128) ∨ (∀ b ∈ (s.extract 0 w).data.toList, 128 ≤ b.toNat) := by
        rcases hf with ⟨h1, h2⟩ | ⟨h1, h2, h3⟩
        · left
          have hw1 : w = 1 := by omega
          subst hw1
          refine ⟨s[0], extract1 s 0 hlt, ?_⟩
          rw [bY_eq s 0 hlt]
          rcases h2 with h2 | h2
          · exact h2.2
          · rw [h1] at hok; rcases hok with hok | hok
            · exact absurd h2 hok
            · omega
        · right
          intro b hb
          obtain ⟨k, hk, rfl⟩ := List.getElem_of_mem hb
          have hk' : k < (s.extract 0 w).size := hk
          have : (s.extract 0 w).data.toList[k] = (s.extract 0 w)[k] := rfl
          rw [this, bY_eq _ k hk', bY_take s w k (by omega) (by omega)]
          by_cases hk0 : k = 0
          · subst hk0; exact h1
          · have := h3 k (by omega) (by omega)
            rw [Nat.zero_add] at this
            omega
      rw [split_at s w (by omega)]
      exact cons _ _ hvc (by rw [hpc]; rfl) hcases hvt (ih _ (by rw [ByteArray.size_extract]; omega) hvt)

theorem dbl_app (a b : ByteArray) : (⟨((a ++ b).data.toList.flatMap dbl).toArray⟩ : ByteArray) = ⟨(a.data.toList.flatMap dbl).toArray⟩ ++ ⟨(b.data.toList.flatMap dbl).toArray⟩ := by
  apply ByteArray.ext
  apply Array.ext'
  simp
theorem dbl_high : ∀ (l : List UInt8), (∀ b ∈ l, 128 ≤ b.toNat) → l.flatMap dbl = l := by
  intro l
  induction l with
  | nil => intro _; rfl
  | cons c l ih =>
    intro h
    have hc : c ≠ 39 := fun e => by have := h c (List.mem_cons_self); rw [e] at this; exact absurd this (by decide)
    rw [List.flatMap_cons, ih (fun b hb => h b (List.mem_cons_of_mem _ hb))]
    simp [dbl, hc]
theorem valid_dbl (s : ByteArray) (h : valid s = true) : valid ⟨(s.data.toList.flatMap dbl).toArray⟩ = true := by
  refine valid_ind (C := fun s => valid ⟨(s.data.toList.flatMap dbl).toArray⟩ = true) rfl ?_ s.size s (Nat.le_refl _) h
  intro c t hc _ hcs _ ht
  rw [dbl_app]
  have hvc : valid ⟨(c.data.toList.flatMap dbl).toArray⟩ = true := by
    rcases hcs with ⟨b, rfl, hb⟩ | hhi
    · by_cases h39 : b = 39
      · subst h39; decide +kernel
      · have e : (⟨((⟨#[b]⟩ : ByteArray).data.toList.flatMap dbl).toArray⟩ : ByteArray) = ⟨#[b]⟩ := by
          apply ByteArray.ext; apply Array.ext'; simp [dbl, h39]
        rw [e]; exact one_valid b hb
    · rw [dbl_high _ hhi]
      exact hc
  rw [valid_app _ _ hvc]
  exact ht
theorem quote_parts (s : ByteArray) : quote s = ⟨#[39]⟩ ++ (⟨(s.data.toList.flatMap dbl).toArray⟩ ++ ⟨#[39]⟩) := by
  rw [quote_dbl]
  apply ByteArray.ext; apply Array.ext'; simp
theorem valid_quote (s : ByteArray) (h : valid s = true) : valid (quote s) = true := by
  rw [quote_parts, valid_app _ _ (one_valid 39 (by decide)), valid_app _ _ (valid_dbl s h)]
  exact one_valid 39 (by decide)

def NoQ (t : ByteArray) : Prop := t.data.toList.head? ≠ some 39
theorem noq_one (c : UInt8) (hc : c ≠ 39) (t : ByteArray) : NoQ (⟨#[c]⟩ ++ t) := by
  unfold NoQ
  rw [ByteArray.data_append, Array.toList_append]
  simp [hc]
theorem unquote_head (v t : ByteArray) (ht : NoQ t) : unquote (quote v ++ t) 0 = some (v, (((quote v).size : Nat) : Int)) := by
  have hd : (quote v ++ t).data.toList = 39 :: (v.data.toList.flatMap dbl ++ 39 :: t.data.toList) := by
    rw [ByteArray.data_append, Array.toList_append, quote_data]; simp
  have hsz : (quote v ++ t).size = (quote v).size + t.size := by rw [ByteArray.size_append]
  have hq := quote_size v
  unfold unquote
  rw [if_pos ⟨by omega, by omega, by rw [hd]; rfl⟩, hd]
  simp only [Int.toNat_zero, Nat.zero_add, List.drop_succ_cons, List.drop_zero]
  rw [unq_dbl t.data.toList ht v.data.toList]
  simp only [Option.map_some, Option.some.injEq, Prod.mk.injEq]
  refine ⟨trivial, ?_⟩
  rw [hq]; omega
theorem ptsAt_lt (s : ByteArray) : ∀ n pos, s.size - pos ≤ n → ∀ p ∈ ptsAt s pos, p.at_ < s.size := by
  intro n
  induction n with
  | zero => intro pos h p hp; rw [ptsAt_end s pos (by omega)] at hp; cases hp
  | succ n ih =>
    intro pos h p hp
    by_cases hlt : pos < s.size
    · have hw := width_pos s pos hlt
      rw [ptsAt_step s pos hlt] at hp
      rcases List.mem_cons.1 hp with rfl | hp
      · exact hlt
      · exact ih _ (by omega) p hp
    · rw [ptsAt_end s pos hlt] at hp; cases hp
theorem at_lt (s : ByteArray) (k : Nat) (h : k < (pts s).length) : (pts s)[k].at_ < s.size :=
  ptsAt_lt s s.size 0 (by omega) _ (by rw [← pts_eq]; exact List.getElem_mem h)

theorem tok_text {v t : ByteArray} (hv : valid v = true) (hs : v.size ≤ 100) (ht : NoQ t) : tokO (quote v ++ t) (pts (quote v ++ t)) 0 = (⟨3, v, 0, 0⟩, true, (pts (quote v)).length) ∧ skip (pts (quote v ++ t)) 0 = 0 ∧ pts (quote v) ≠ [] := by
  have hvq := valid_quote v hv
  have hcut := Cut.of_valid (quote v) t hvq
  have hlen := hcut.len
  have e1 : quote v ++ t = ⟨#[39]⟩ ++ ((⟨(v.data.toList.flatMap dbl).toArray⟩ ++ ⟨#[39]⟩) ++ t) := by rw [quote_parts, app_assoc]
  have hst : Stop (quote v ++ t) := by rw [e1]; exact stop_one 39 (by decide) _
  have hB : ∀ c, isB (pts (quote v ++ t)) 0 c = ((39 : Int) == c) := fun c => by rw [e1]; exact one_isB 39 (by decide) _ c
  have hq := quote_size v
  have hne : pts (quote v) ≠ [] := by
    rw [quote_parts, (one_cut 39 (by decide) _).pts]; simp
  have hend : textEnd (pts (quote v ++ t)) (((quote v).size : Nat) : Int) 0 = (pts (quote v)).length := by
    refine runTo_all (by rw [hlen]; omega) (fun j hj => ?_) ?_
    · simp only [app_get (quote v) t hvq j hj, List.getElem?_eq_getElem hj]
      exact decide_eq_true (by have := at_lt (quote v) j hj; omega)
    · have := hcut.get 0
      rw [Nat.add_zero] at this
      simp only [this]
      cases hp : (pts t)[0]? with
      | none => rfl
      | some p =>
        simp only [Option.map_some]
        exact decide_eq_false (by show ¬ (((p.at_ + (quote v).size : Nat) : Int) < _); omega)
  refine ⟨?_, ?_, hne⟩
  · unfold tokO
    rw [hst.1, hst.2, hB, hB]
    show textO (quote v ++ t) (pts (quote v ++ t)) 0 = _
    unfold textO
    rw [byteAt_zero]
    show (match unquote (quote v ++ t) 0 with | some x => _ | none => _) = _
    rw [unquote_head v t ht]
    simp only []
    rw [hend, hv, decide_eq_true hs]; rfl
  · refine skip_stop ?_ ?_
    · unfold blankB; rw [hB, hB, hB, hB]; rfl
    · unfold dashB; rw [hB]; rfl
theorem Lx.text {v t : ByteArray} {l : List Tk} (hv : valid v = true) (hs : v.size ≤ 100) (ht : NoQ t) (h : Lx t l) : Lx (quote v ++ t) (⟨3, v, 0, 0⟩ :: l.map (Tk.on (pts (quote v)).length)) := by
  obtain ⟨h1, h2, h3⟩ := tok_text hv hs ht
  exact Lx.tok (valid_quote v hv) h3 h2 h1 h


def numV : List UInt8 → Int → Bool → Int × Bool
  | [], v, ok => (v, ok)
  | c :: l, v, ok => numV l (min (v * 10 + ((c.toNat : Int) - 48)) 1099511627776) (ok && decide (v * 10 + ((c.toNat : Int) - 48) ≤ 1099511627776))
def digL (l : List UInt8) : Bool := l.all fun c => decide (48 ≤ c.toNat) && decide (c.toNat ≤ 57)
theorem cons_app (c : UInt8) (l : List UInt8) : (⟨(c :: l).toArray⟩ : ByteArray) = ⟨#[c]⟩ ++ ⟨l.toArray⟩ := by
  apply ByteArray.ext; apply Array.ext'; simp
theorem ascii_valid : ∀ l : List UInt8, (∀ c ∈ l, c.toNat < 128) → valid ⟨l.toArray⟩ = true ∧ (pts ⟨l.toArray⟩).length = l.length := by
  intro l
  induction l with
  | nil => intro _; exact ⟨rfl, rfl⟩
  | cons c l ih =>
    intro h
    have hc := h c (List.mem_cons_self)
    obtain ⟨h1, h2⟩ := ih (fun b hb => h b (List.mem_cons_of_mem _ hb))
    rw [cons_app]
    refine ⟨by rw [valid_app _ _ (one_valid c hc)]; exact h1, ?_⟩
    rw [(one_cut c hc _).len, h2]; simp; omega
theorem num_digits (t : ByteArray) (ht : digB (pts t) 0 = false) : ∀ (l : List UInt8), digL l = true → ∀ v ok,
    num (pts (⟨l.toArray⟩ ++ t)) 0 v ok = ((numV l v ok).1, (numV l v ok).2, l.length) := by
  intro l
  induction l with
  | nil =>
    intro _ v ok
    have e : (⟨([] : List UInt8).toArray⟩ : ByteArray) ++ t = t := by apply ByteArray.ext; simp
    rw [e, num_stop ht]; rfl
  | cons c l ih =>
    intro h v ok
    simp only [digL, List.all_cons, Bool.and_eq_true, decide_eq_true_eq] at h
    have hlt : c.toNat < 128 := by omega
    have ih' := ih (by unfold digL; exact h.2)
    rw [cons_app, app_assoc]
    have hcut := one_cut c hlt (⟨l.toArray⟩ ++ t)
    have hd : digB (pts (⟨#[c]⟩ ++ (⟨l.toArray⟩ ++ t))) 0 = true := by
      unfold digB; rw [one_get c hlt]
      simp only [digitB, Bool.and_eq_true, decide_eq_true_eq]; omega
    have hr : rAt (pts (⟨#[c]⟩ ++ (⟨l.toArray⟩ ++ t))) 0 = (c.toNat : Int) := by unfold rAt; rw [one_get c hlt]
    rw [num_go hd, hr]
    have := hcut.num 0 (min (v * 10 + ((c.toNat : Int) - 48)) 1099511627776) (ok && decide (v * 10 + ((c.toNat : Int) - 48) ≤ 1099511627776))
    rw [Nat.add_zero] at this
    show num _ ([(⟨c.toNat, 0, 1⟩ : Pt)].length) _ _ = _
    rw [this, ih']
    simp only [numV, List.length_cons, List.length_nil]
    rw [Nat.add_comm]
def minusL (neg : Bool) : List UInt8 := if neg then [45] else []
theorem tok_numberG (neg : Bool) (l : List UInt8) (hl : digL l = true) (hne : l ≠ []) (t : ByteArray) (ht : digB (pts t) 0 = false) (V : Int) (ok : Bool) (hV : numV l 0 true = (V, ok)) :
    tokO (⟨(minusL neg ++ l).toArray⟩ ++ t) (pts (⟨(minusL neg ++ l).toArray⟩ ++ t)) 0 = (⟨2, ⟨#[]⟩, if neg then -V else V, 0⟩, ok && !letB (pts t) 0, (minusL neg ++ l).length) ∧ skip (pts (⟨(minusL neg ++ l).toArray⟩ ++ t)) 0 = 0 ∧ valid ⟨(minusL neg ++ l).toArray⟩ = true ∧ (pts ⟨(minusL neg ++ l).toArray⟩).length = (minusL neg ++ l).length := by
  have hall : ∀ c ∈ minusL neg ++ l, c.toNat < 128 := by
    intro c hc
    rcases List.mem_append.1 hc with hc | hc
    · unfold minusL at hc; split at hc
      · rw [List.mem_singleton.1 hc]; decide
      · cases hc
    · have := List.all_eq_true.1 hl c hc
      simp only [Bool.and_eq_true, decide_eq_true_eq] at this; omega
  obtain ⟨hv, hlen⟩ := ascii_valid _ hall
  obtain ⟨d, l', rfl⟩ : ∃ d l', l = d :: l' := by cases l with | nil => exact absurd rfl hne | cons d l' => exact ⟨d, l', rfl⟩
  have hdd : 48 ≤ d.toNat ∧ d.toNat ≤ 57 := by
    have := List.all_eq_true.1 hl d (List.mem_cons_self)
    simp only [Bool.and_eq_true, decide_eq_true_eq] at this; exact this
  have hdlt : d.toNat < 128 := by omega
  have hnum := num_digits t ht (d :: l') hl
  have hds : ∀ r, (⟨(d :: l').toArray⟩ : ByteArray) ++ r = ⟨#[d]⟩ ++ (⟨l'.toArray⟩ ++ r) := fun r => by rw [cons_app, app_assoc]
  have hdig : digB (pts (⟨(d :: l').toArray⟩ ++ t)) 0 = true := by
    rw [hds]; unfold digB; rw [one_get d hdlt]
    simp only [digitB, Bool.and_eq_true, decide_eq_true_eq]; omega
  have hend : letB (pts (⟨(minusL neg ++ (d :: l')).toArray⟩ ++ t)) (minusL neg ++ (d :: l')).length = letB (pts t) 0 := by
    have hcut := Cut.of_valid _ t hv
    have := hcut.letB 0
    rw [Nat.add_zero, hlen] at this
    exact this
  have hnb : ∀ x : Int, (x = 32 ∨ x = 9 ∨ x = 10 ∨ x = 13 ∨ x = 39 ∨ x = 45) → isB (pts (⟨(d :: l').toArray⟩ ++ t)) 0 x = false := by
    intro x hx
    rw [hds, one_isB d hdlt, beq_eq_false_iff_ne]; omega
  have hnl : letB (pts (⟨(d :: l').toArray⟩ ++ t)) 0 = false := by
    rw [hds]; unfold letB; rw [one_get d hdlt]
    simp only [letterB]
    rw [Bool.and_eq_false_iff]; right
    simp only [Bool.or_eq_false_iff, Bool.and_eq_false_iff, beq_eq_false_iff_ne, decide_eq_false_iff_not]
    omega
  cases neg with
  | false =>
    have e0 : minusL false ++ (d :: l') = d :: l' := rfl
    rw [e0] at hend hv hlen ⊢
    refine ⟨?_, ?_, hv, hlen⟩
    · unfold tokO
      rw [hnl, hdig]
      show numberO _ 0 = _
      unfold numberO numR numStart
      rw [hnb 45 (by omega)]
      simp only [Bool.false_eq_true, if_false]
      rw [hdig, hnum 0 true, hV]
      simp only []
      rw [hend]
      try rfl
    · refine skip_stop ?_ ?_
      · unfold blankB; rw [hnb 32 (by omega), hnb 9 (by omega), hnb 10 (by omega), hnb 13 (by omega)]; rfl
      · unfold dashB; rw [hnb 45 (by omega)]; rfl
  | true =>
    have e0 : minusL true ++ (d :: l') = 45 :: (d :: l') := rfl
    rw [e0] at hend hv hlen ⊢
    have e1 : (⟨(45 :: (d :: l')).toArray⟩ : ByteArray) ++ t = ⟨#[45]⟩ ++ (⟨(d :: l').toArray⟩ ++ t) := by rw [cons_app, app_assoc]
    have hcut := one_cut 45 (by decide) (⟨(d :: l').toArray⟩ ++ t)
    have hB : ∀ x, isB (pts (⟨#[45]⟩ ++ (⟨(d :: l').toArray⟩ ++ t))) 0 x = ((45 : Int) == x) := fun x => one_isB 45 (by decide) _ x
    have hst := stop_one 45 (by decide) (⟨(d :: l').toArray⟩ ++ t)
    have hd1 : digB (pts (⟨#[45]⟩ ++ (⟨(d :: l').toArray⟩ ++ t))) 1 = true := by
      have := hcut.digB 0; rw [Nat.add_zero] at this
      exact this.trans hdig
    have hn1 := hcut.num 0 0 true
    rw [Nat.add_zero, hnum 0 true, hV] at hn1
    rw [e1] at hend ⊢
    refine ⟨?_, ?_, hv, hlen⟩
    · unfold tokO
      rw [hst.1, hst.2, hB]
      show numberO _ 0 = _
      unfold numberO numR numStart
      rw [hB]
      show ((⟨2, ⟨#[]⟩, -(num _ (0 + 1) 0 (digB _ (0 + 1))).1, 0⟩, (num _ (0 + 1) 0 (digB _ (0 + 1))).2.1 && !letB _ (num _ (0 + 1) 0 (digB _ (0 + 1))).2.2, (num _ (0 + 1) 0 (digB _ (0 + 1))).2.2) : Tk × Bool × Nat) = _
      rw [hd1]
      have hn2 : num (pts (⟨#[45]⟩ ++ (⟨(d :: l').toArray⟩ ++ t))) (0 + 1) 0 true = (V, ok, (45 :: (d :: l')).length) := by
        refine hn1.trans ?_
        simp; omega
      rw [hn2]
      simp only []
      rw [hend]
      try rfl
    · refine skip_stop ?_ ?_
      · unfold blankB; rw [hB, hB, hB, hB]; rfl
      · unfold dashB
        have := hcut.isB 0 45; rw [Nat.add_zero] at this
        rw [show (0 + 1 : Nat) = [(⟨(45 : UInt8).toNat, 0, 1⟩ : Pt)].length from rfl, this, hnb 45 (by omega), Bool.and_false]
theorem tok_number (neg : Bool) (l : List UInt8) (hl : digL l = true) (hne : l ≠ []) (t : ByteArray) (ht : Stop t) (V : Int) (hV : numV l 0 true = (V, true)) :
    tokO (⟨(minusL neg ++ l).toArray⟩ ++ t) (pts (⟨(minusL neg ++ l).toArray⟩ ++ t)) 0 = (⟨2, ⟨#[]⟩, if neg then -V else V, 0⟩, true, (minusL neg ++ l).length) ∧ skip (pts (⟨(minusL neg ++ l).toArray⟩ ++ t)) 0 = 0 ∧ valid ⟨(minusL neg ++ l).toArray⟩ = true ∧ (pts ⟨(minusL neg ++ l).toArray⟩).length = (minusL neg ++ l).length := by
  have h := tok_numberG neg l hl hne t ht.2 V true hV
  rw [ht.1] at h
  exact h
theorem Lx.number (neg : Bool) (l : List UInt8) (hl : digL l = true) (hne : l ≠ []) {t : ByteArray} (ht : Stop t) (V : Int) (hV : numV l 0 true = (V, true)) {k : List Tk} (h : Lx t k) :
    Lx (⟨(minusL neg ++ l).toArray⟩ ++ t) (⟨2, ⟨#[]⟩, if neg then -V else V, 0⟩ :: k.map (Tk.on (minusL neg ++ l).length)) := by
  obtain ⟨h1, h2, h3, h4⟩ := tok_number neg l hl hne t ht V hV
  have := Lx.tok (l := k) h3 (by intro e; rw [e] at h4; simp at h4; exact hne (List.eq_nil_of_length_eq_zero (by omega))) h2 (by rw [h1, h4]) h
  rw [h4] at this
  exact this


def decF : Nat → Nat → List UInt8
  | 0, _ => []
  | f + 1, n => if n < 10 then [UInt8.ofNat (48 + n)] else decF f (n / 10) ++ [UInt8.ofNat (48 + n % 10)]
def dec (n : Nat) : List UInt8 := decF (n + 1) n
theorem decF_fuel : ∀ f g n, n < f → n < g → decF f n = decF g n := by
  intro f
  induction f with
  | zero => intro g n h; omega
  | succ f ih =>
    intro g n h1 h2
    cases g with
    | zero => omega
    | succ g =>
      rw [decF, decF]
      split
      · rfl
      · rw [ih g (n / 10) (by omega) (by omega)]
theorem dec_one {n : Nat} (h : n < 10) : dec n = [UInt8.ofNat (48 + n)] := by unfold dec; rw [decF, if_pos h]
theorem dec_more {n : Nat} (h : 10 ≤ n) : dec n = dec (n / 10) ++ [UInt8.ofNat (48 + n % 10)] := by
  unfold dec
  rw [decF, if_neg (by omega), decF_fuel n (n / 10 + 1) (n / 10) (by omega) (by omega)]
theorem digit_nat (k : Nat) (h : k < 10) : (UInt8.ofNat (48 + k)).toNat = 48 + k := by
  rw [UInt8.toNat_ofNat']; omega
theorem dec_ind {C : Nat → Prop} (one : ∀ n, n < 10 → C n) (more : ∀ n, 10 ≤ n → C (n / 10) → C n) : ∀ n, C n := by
  intro n
  induction n using Nat.strongRecOn with
  | _ n ih =>
    by_cases h : n < 10
    · exact one n h
    · exact more n (by omega) (ih (n / 10) (by omega))
theorem dec_dig (n : Nat) : digL (dec n) = true ∧ dec n ≠ [] := by
  refine dec_ind (C := fun n => digL (dec n) = true ∧ dec n ≠ []) (fun n h => ?_) (fun n h ih => ?_) n
  · rw [dec_one h]
    refine ⟨?_, by simp⟩
    simp only [digL, List.all_cons, List.all_nil, Bool.and_true, Bool.and_eq_true, decide_eq_true_eq]
    rw [digit_nat n h]; omega
  · rw [dec_more h]
    refine ⟨?_, by simp⟩
    have := digit_nat (n % 10) (by omega)
    unfold digL at ih ⊢
    rw [List.all_append, ih.1]
    simp only [Bool.true_and, List.all_cons, List.all_nil, Bool.and_true, Bool.and_eq_true, decide_eq_true_eq]
    omega
theorem numV_app : ∀ (l : List UInt8) (m : List UInt8) v ok, numV (l ++ m) v ok = numV m (numV l v ok).1 (numV l v ok).2 := by
  intro l
  induction l with
  | nil => intro m v ok; rfl
  | cons c l ih => intro m v ok; rw [List.cons_append, numV, ih, numV]
theorem numV_dec (n : Nat) (h : n ≤ 1099511627776) : numV (dec n) 0 true = ((n : Int), true) := by
  revert h
  refine dec_ind (C := fun n => n ≤ 1099511627776 → numV (dec n) 0 true = ((n : Int), true)) (fun n h hn => ?_) (fun n h ih hn => ?_) n
  · rw [dec_one h, numV, numV, digit_nat n h]
    simp only [Prod.mk.injEq, Bool.true_and, decide_eq_true_eq]
    omega
  · rw [dec_more h, numV_app, ih (by omega), numV, numV, digit_nat (n % 10) (by omega)]
    simp only [Prod.mk.injEq, Bool.true_and, decide_eq_true_eq]
    omega
def Lbad (t : ByteArray) (a : Nat) : Prop := lexF t (pts t) ((pts t).length + 1) 0 = .error a
theorem Lbad.lexL {t : ByteArray} {a : Nat} (h : Lbad t a) (hs : t.size ≤ 1000) : lexL t = ([], a, 3) := by
  unfold Lbad at h
  unfold Cle.lexL
  rw [if_neg (by omega), h]
theorem Lbad.here {t : ByteArray} (hne : pts t ≠ []) (hsk : skip (pts t) 0 = 0) (hb : (tokO t (pts t) 0).2.1 = false) : Lbad t 0 := by
  unfold Lbad
  rw [lexF_bad (by rw [hsk]; exact List.length_pos_iff.2 hne) (by rw [hsk]; exact hb), hsk]
theorem Lbad.blank (c : UInt8) (hc : c = 32 ∨ c = 9 ∨ c = 10 ∨ c = 13) {t : ByteArray} {a : Nat} (h : Lbad t a) : Lbad (⟨#[c]⟩ ++ t) (1 + a) := by
  have hlt : c.toNat < 128 := by rcases hc with rfl | rfl | rfl | rfl <;> decide
  have hcut := one_cut c hlt t
  have hlen := hcut.len
  have hb : blankB (pts (⟨#[c]⟩ ++ t)) 0 = true := by
    unfold blankB
    rw [one_isB c hlt, one_isB c hlt, one_isB c hlt, one_isB c hlt]
    rcases hc with rfl | rfl | rfl | rfl <;> rfl
  have hsk : skip (pts (⟨#[c]⟩ ++ t)) 0 = skip (pts (⟨#[c]⟩ ++ t)) 1 := skip_blank (by rw [hlen]; show 0 < 1 + _; omega) hb
  have hx := hcut.lexF ((pts (⟨#[c]⟩ ++ t)).length + 1) 0
  rw [Nat.add_zero, lexF_fuel t (pts t) _ ((pts t).length + 1) 0 (by rw [hlen]; show _ < 1 + _ + 1 + 0; omega) (by omega), h] at hx
  refine Eq.trans ?_ hx
  show _ = lexF _ _ _ 1
  rw [lexF, lexF, hsk]

end Cle
end Go.Proofs.YtfbgdjcnlnfoaaaGreatDoor

namespace Go.Proofs.YtfbgdjcnlnfoaaaGreatDoor
namespace Cle
open Go.RowKit

end Cle
end Go.Proofs.YtfbgdjcnlnfoaaaGreatDoor

namespace Go.Proofs.YtfbgdjcnlnfoaaaGreatDoor
namespace Cle

def itoaS (n : Int) : ByteArray := ⟨(minusL (decide (n < 0)) ++ dec n.natAbs).toArray⟩
end Cle
end Go.Proofs.YtfbgdjcnlnfoaaaGreatDoor

