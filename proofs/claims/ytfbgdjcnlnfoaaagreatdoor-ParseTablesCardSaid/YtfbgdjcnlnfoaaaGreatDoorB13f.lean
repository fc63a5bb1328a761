/- Parts of the proof, joined: PlainPM. -/
import Derived.Test.YtfbgdjcnlnfoaaaGreatDoorB13e
namespace Go.Proofs.YtfbgdjcnlnfoaaaGreatDoor
namespace Cle

def Keep (σ σ' : Ps) : Prop := ∀ a, σ.bad = some a → σ'.bad = some a
theorem Keep.refl (σ : Ps) : Keep σ σ := fun _ h => h
theorem Keep.trans {σ σ1 σ2 : Ps} (h : Keep σ σ1) (h' : Keep σ1 σ2) : Keep σ σ2 := fun a ha => h' a (h a ha)
theorem keep_wrong (σ : Ps) (b : Nat) : Keep σ (σ.wrong b) := by
  intro a ha
  unfold Ps.wrong
  rw [ha]; exact ha
theorem keep_step (σ : Ps) : Keep σ σ.step := fun _ h => h
theorem keep_if {c : Prop} [Decidable c] {σ σ1 σ2 : Ps} (h1 : Keep σ σ1) (h2 : Keep σ σ2) : Keep σ (if c then σ1 else σ2) := by
  split
  · exact h1
  · exact h2
section
variable (X : Tx)
theorem fail_keep (σ : Ps) : Keep σ (X.fail σ) := keep_wrong _ _
theorem must1_keep (σ : Ps) (s : ByteArray) : Keep σ (X.must1 σ s) := keep_if (keep_step _) (fail_keep X _)
theorem must_keep : ∀ (l : List ByteArray) (σ : Ps), Keep σ (X.must σ l)
  | [], σ => Keep.refl σ
  | s :: l, σ => (must1_keep X σ s).trans (must_keep l (X.must1 σ s))
theorem may_keep (σ : Ps) (s : ByteArray) : Keep σ (X.may σ s) := keep_if (keep_step _) (Keep.refl _)
theorem name_keep (σ : Ps) : Keep σ (X.name σ).2 := by
  unfold Tx.name
  split
  · split
    · exact fail_keep X _
    · exact keep_step _
  · exact fail_keep X _
theorem kind_keep (σ : Ps) : Keep σ (X.kind σ).2 := by
  unfold Tx.kind
  split
  · exact keep_step _
  · exact must_keep X _ _
theorem one_keep (σ : Ps) (l : List ByteArray) (but : ByteArray) : Keep σ (X.one σ l but).2 := (name_keep X σ).trans (keep_if (keep_wrong _ _) (Keep.refl _))
theorem table_keep (σ : Ps) : Keep (X.tableF (X.T.length + 1) (X.must (X.name σ).2 [(⟨#[40]⟩ : ByteArray)]) [] []).2.2 (X.table σ).2 :=
  ((must_keep X _ _).trans (one_keep X _ _ _)).trans (((must_keep X _ _).trans (one_keep X _ _ _)).trans (must_keep X _ _))
end
variable {X : Tx}
theorem tableF_more : ∀ (D : List Cl) (n : Nat) (σ : Ps) (l : List ByteArray) (C : List Cl) (c : Cl) (R : List To) (A : List Tk) (t : Tk) (B : List Tk), D.length < n → Cur X σ (D.flatMap colT ++ (tokN c.name :: R)) → (∀ c ∈ D, colOK c) → nameOK c.name → distF l (D.map Cl.name) → (l ++ D.map Cl.name).length = 10 → X.T = A ++ t :: B → R.length = B.length →
    (X.tableF n σ l C).2.2.bad = some t.at_
  | [], 0, _, _, _, _, _, _, _, _, hn, _, _, _, _, _, _, _ => absurd hn (by simp)
  | d :: D, 0, _, _, _, _, _, _, _, _, hn, _, _, _, _, _, _, _ => absurd hn (by simp)
  | [], n + 1, σ, l, C, c, R, A, t, B, _, h, _, hc, _, hm, hT, hl => by
    replace h : Cur X σ (tokN c.name :: R) := h
    have hm : l.length = 10 := by simpa using hm
    rw [Tx.tableF, h.1, if_neg (by decide), if_neg (by rw [h.sees, seesF_name hc (by decide +kernel)]; decide)]
    have e : (X.column σ l 10).2.bad = some t.at_ := by
      unfold Tx.column
      simp only
      have h10 : 10 ≤ l.length := by omega
      rw [if_pos h10]
      refine Keep.trans (name_keep X _) (keep_if (keep_wrong _ _) (Keep.refl _)) _ ?_
      unfold Ps.wrong
      rw [h.1]
      simp only
      rw [h.here hT (by rw [List.length_cons, hl])]
    have e2 := ((kind_keep X (X.column σ l 10).2).trans (must_keep X [(⟨#[44]⟩ : ByteArray)] _)) _ e
    simp only
    rw [tableF_bad (by rw [e2]; simp)]
    exact e2
  | d :: D, n + 1, σ, l, C, c, R, A, t, B, hn, h, hok, hc, hd, hm, hT, hl => by
    replace h : Cur X σ (tokN d.name :: kindT d.ty :: tokW (⟨#[44]⟩ : ByteArray) :: (D.flatMap colT ++ tokN c.name :: R)) := by simpa [colT] using h
    obtain ⟨ho1, ho2⟩ := hok d (List.mem_cons_self ..)
    rw [Tx.tableF, h.1, if_neg (by decide), if_neg (by rw [h.sees, seesF_name ho1 (by decide +kernel)]; decide)]
    obtain ⟨h1, h2⟩ := column_go (most := 10) (l := l) h ho1 hd.1 (by simp at hm; omega)
    obtain ⟨h3, h4⟩ := kind_go h2 ho2
    have h5 := must_go [(⟨#[44]⟩ : ByteArray)] h4
    simp only
    rw [h1, h3]
    have hlast : (l ++ [d.name]).getLastD ⟨#[]⟩ = d.name := by simp
    rw [hlast]
    exact tableF_more D n _ (l ++ [d.name]) (C ++ [⟨d.name, d.ty⟩]) c R A t B (by simpa using hn) h5 (fun x hx => hok x (List.mem_cons_of_mem _ hx)) hc hd.2 (by simpa using hm) hT hl
theorem parseT_table {X : Tx} {nm : ByteArray} {D : List Cl} {c : Cl} {R : List To} (hF : X.F = tokW (⟨#[99, 114, 101, 97, 116, 101]⟩ : ByteArray) :: tokW (⟨#[116, 97, 98, 108, 101]⟩ : ByteArray) :: tokN nm :: tokW (⟨#[40]⟩ : ByteArray) :: (D.flatMap colT ++ tokN c.name :: R)) (hn : nameOK nm) (hok : ∀ c ∈ D, colOK c) (hc : nameOK c.name) (hd : distF [] (D.map Cl.name)) (hl : D.length = 10)
    {A : List Tk} {t : Tk} {B : List Tk} (hT : X.T = A ++ t :: B) (hR : R.length = B.length) : (parseT X).2.bad = some t.at_ := by
  have h0 : Cur X ⟨0, none⟩ (tokW (⟨#[99, 114, 101, 97, 116, 101]⟩ : ByteArray) :: tokW (⟨#[116, 97, 98, 108, 101]⟩ : ByteArray) :: tokN nm :: tokW (⟨#[40]⟩ : ByteArray) :: (D.flatMap colT ++ tokN c.name :: R)) := ⟨rfl, by rw [List.drop_zero]; exact hF⟩
  have hlen := h0.len
  have h2 := (name_go h0.step.step hn).2
  have h3 := must_go [(⟨#[40]⟩ : ByteArray)] h2
  have hfl : D.length ≤ X.T.length := by
    have e : X.F.length = X.T.length := by unfold Tx.F; rw [List.length_map]
    rw [← e, hF]
    simp only [List.length_cons, List.length_append, colT_len]
    omega
  have h4 := tableF_more D (X.T.length + 1) _ [] [] c R A t B (by omega) h3 hok hc hd (by simpa using hl) hT hR
  have h5 := table_keep X _ _ h4
  unfold parseT
  simp only
  have hs : ∀ s, X.sees ⟨0, none⟩ s = bEq (⟨#[99, 114, 101, 97, 116, 101]⟩ : ByteArray) s := fun s => by rw [h0.sees, seesF_W]
  have hs1 : X.sees (Ps.step ⟨0, none⟩) (⟨#[116, 97, 98, 108, 101]⟩ : ByteArray) = true := by rw [h0.step.sees, seesF_W]; decide
  have e : (X.stF (X.T.length + 2) ⟨0, none⟩).2.bad = some t.at_ := by
    rw [Tx.stF, hs, hs, hs, hs, hs, hs, hs]
    rw [if_neg (by decide), if_neg (by decide), if_neg (by decide), if_neg (by decide), if_neg (by decide), if_neg (by decide), if_pos (by decide), if_pos hs1]
    exact h5
  exact Keep.trans (may_keep X _ _) (keep_if (fail_keep X _) (Keep.refl _)) _ e

def ltr (i : Nat) : ByteArray := ⟨#[UInt8.ofNat (97 + i)]⟩
theorem ltr_ok : ∀ i < 13, nameOK (ltr i) := by
  unfold nameOK
  decide +kernel
theorem ltr_inj : ∀ i < 13, ∀ j < 13, ltr i = ltr j → i = j := by decide +kernel
def colS (f : Nat → Bool) (i : Nat) : Cl := ⟨ltr i, if f i then 2 else 1⟩
def colsS (f : Nat → Bool) (m : Nat) : List Cl := (List.range m).map (colS f)
theorem cols_ok (f : Nat → Bool) {m : Nat} (hm : m ≤ 13) : ∀ c ∈ colsS f m, colOK c := by
  intro c hc
  obtain ⟨i, hi, rfl⟩ := List.mem_map.1 hc
  have hi := List.mem_range.1 hi
  refine ⟨ltr_ok i (by omega), ?_⟩
  unfold colS
  cases f i <;> simp
theorem cols_names (f : Nat → Bool) (m : Nat) : (colsS f m).map Cl.name = (List.range m).map ltr := by
  unfold colsS
  rw [List.map_map]; rfl
theorem ltrs_dist {m : Nat} (hm : m ≤ 13) : distF [] ((List.range m).map ltr) := by
  refine (distF_iff _ _).2 ⟨by simp, ?_⟩
  rw [List.nodup_iff_pairwise_ne, List.pairwise_map]
  refine List.Pairwise.imp_of_mem ?_ (List.nodup_iff_pairwise_ne.1 List.nodup_range)
  intro a b ha hb hne he
  exact hne (ltr_inj a (by have := List.mem_range.1 ha; omega) b (by have := List.mem_range.1 hb; omega) he)
theorem tbl_ok (f : Nat → Bool) {m a b : Nat} (hm : m ≤ 10) (ha : a < m) (hb : b < m) (hab : a ≠ b) : tableOK (⟨#[116]⟩ : ByteArray) (colsS f m) (ltr a) (ltr b) := by
  refine ⟨by unfold nameOK; decide +kernel, cols_ok f (by omega), by rw [cols_names]; exact ltrs_dist (by omega), by simpa [colsS] using hm, ?_, ?_, ?_⟩
  · rw [cols_names]; exact List.mem_map.2 ⟨a, List.mem_range.2 ha, rfl⟩
  · rw [cols_names]; exact List.mem_map.2 ⟨b, List.mem_range.2 hb, rfl⟩
  · exact fun h => hab (ltr_inj b (by omega) a (by omega) h).symm

def colB (f : Nat → Bool) (i : Nat) : ByteArray := ltr i ++ (if f i then (⟨#[32, 73, 78, 84, 44, 32]⟩ : ByteArray) else (⟨#[32, 116, 101, 120, 116, 44, 32]⟩ : ByteArray))
def bodyB (f : Nat → Bool) : Nat → ByteArray
  | 0 => (⟨#[99, 114, 101, 97, 116, 101, 32, 116, 97, 98, 108, 101, 32, 116, 32, 40]⟩ : ByteArray)
  | i + 1 => bodyB f i ++ colB f i
def endB (a b : Nat) : ByteArray := (⟨#[112, 114, 105, 109, 97, 114, 121, 32, 107, 101, 121, 32, 40]⟩ : ByteArray) ++ ltr a ++ (⟨#[44, 32]⟩ : ByteArray) ++ ltr b ++ (⟨#[41, 41]⟩ : ByteArray)
def headP : List Pc := [.wd (⟨#[99, 114, 101, 97, 116, 101]⟩ : ByteArray), .bl, .wd (⟨#[116, 97, 98, 108, 101]⟩ : ByteArray), .bl, .wd (⟨#[116]⟩ : ByteArray), .bl, .sg 40]
def colP (f : Nat → Bool) (i : Nat) : List Pc := [.wd (ltr i), .bl, .wd (if f i then (⟨#[73, 78, 84]⟩ : ByteArray) else (⟨#[116, 101, 120, 116]⟩ : ByteArray)), .sg 44, .bl]
def tailP (a b : Nat) : List Pc := [.wd (⟨#[112, 114, 105, 109, 97, 114, 121]⟩ : ByteArray), .bl, .wd (⟨#[107, 101, 121]⟩ : ByteArray), .bl, .sg 40, .wd (ltr a), .sg 44, .bl, .wd (ltr b), .sg 41, .sg 41]
def bodyP (f : Nat → Bool) (m : Nat) : List Pc := headP ++ (List.range m).flatMap (colP f)
theorem bodyP_succ (f : Nat → Bool) (m : Nat) : bodyP f (m + 1) = bodyP f m ++ colP f m := by
  unfold bodyP
  rw [List.range_succ, List.flatMap_append, List.flatMap_singleton, List.append_assoc]
theorem body_cat (f : Nat → Bool) : ∀ m, catP (bodyP f m) = bodyB f m
  | 0 => by apply ByteArray.ext; apply Array.ext'; simp [bodyP, headP, catP, Pc.text, bodyB]
  | m + 1 => by
    rw [bodyP_succ, catP_app, body_cat f m, bodyB]
    congr 1
    unfold colP colB
    cases f m <;> (apply ByteArray.ext; apply Array.ext'; simp [catP, Pc.text])
theorem end_cat (a b : Nat) : catP (tailP a b) = endB a b := by
  apply ByteArray.ext; apply Array.ext'; simp [tailP, catP, Pc.text, endB]
theorem colP_ok (f : Nat → Bool) {i : Nat} (hi : i < 13) : ∀ p ∈ colP f i, p.ok := by
  unfold colP
  refine ok_cons (name_ok (ltr_ok i hi)) (ok_cons ok_bl (ok_cons ?_ (ok_cons (ok_sg (by decide)) (ok_cons ok_bl ok_nil))))
  cases f i
  · exact kw_ok (by decide +kernel) (by decide)
  · exact kw_ok (by decide +kernel) (by decide)
theorem headP_ok : ∀ p ∈ headP, p.ok :=
  ok_cons (kw_ok (by decide +kernel) (by decide)) (ok_cons ok_bl (ok_cons (kw_ok (by decide +kernel) (by decide)) (ok_cons ok_bl (ok_cons (kw_ok (by decide +kernel) (by decide)) (ok_cons ok_bl (ok_cons (ok_sg (by decide)) ok_nil))))))
theorem tailP_ok {a b : Nat} (ha : a < 13) (hb : b < 13) : ∀ p ∈ tailP a b, p.ok :=
  ok_cons (kw_ok (by decide +kernel) (by decide)) (ok_cons ok_bl (ok_cons (kw_ok (by decide +kernel) (by decide)) (ok_cons ok_bl (ok_cons (ok_sg (by decide)) (ok_cons (name_ok (ltr_ok a ha)) (ok_cons (ok_sg (by decide)) (ok_cons ok_bl (ok_cons (name_ok (ltr_ok b hb)) (ok_cons (ok_sg (by decide)) (ok_cons (ok_sg (by decide)) ok_nil))))))))))
theorem bodyP_ok (f : Nat → Bool) {m : Nat} (hm : m ≤ 13) : ∀ p ∈ bodyP f m, p.ok := by
  refine mem_ok_app headP_ok ?_
  intro p hp
  obtain ⟨i, hi, hp⟩ := List.mem_flatMap.1 hp
  exact colP_ok f (by have := List.mem_range.1 hi; omega) p hp
theorem nb_colsS (f : Nat → Bool) (r : List Pc) (hr : nb false r = true) : ∀ l : List Nat, nb false (l.flatMap (colP f) ++ r) = true
  | [] => hr
  | i :: l => by
    have h := nb_colsS f r hr l
    rw [List.flatMap_cons, List.append_assoc]
    exact h
theorem all_nb (f : Nat → Bool) (m a b : Nat) : nb false (bodyP f m ++ tailP a b) = true := by
  have h := nb_colsS f (tailP a b) rfl (List.range m)
  unfold bodyP
  rw [List.append_assoc]
  exact h
theorem pk_lower {u : ByteArray} (h : fold u = u) (h2 : inB u signL = false) : (Pc.wd u).toks = [tokW u] := kwT h h2
theorem colP_toks (f : Nat → Bool) {i : Nat} (hi : i < 13) : toksP (colP f i) = colT (colS f i) := by
  unfold colP colT
  simp only [toksP_cons, name_toks (ltr_ok i hi), kt_bl, kt_44, toksP_nil]
  unfold colS kindT
  cases f i
  · rw [show (Pc.wd (if false = true then (⟨#[73, 78, 84]⟩ : ByteArray) else (⟨#[116, 101, 120, 116]⟩ : ByteArray))).toks = [tokW (⟨#[116, 101, 120, 116]⟩ : ByteArray)] from kwT (by decide +kernel) (by decide +kernel)]
    rfl
  · rw [show (Pc.wd (if true = true then (⟨#[73, 78, 84]⟩ : ByteArray) else (⟨#[116, 101, 120, 116]⟩ : ByteArray))).toks = [tokW (⟨#[105, 110, 116]⟩ : ByteArray)] from kwT (by decide +kernel) (by decide +kernel)]
    rfl
theorem colsS_toks (f : Nat → Bool) : ∀ l : List Nat, (∀ i ∈ l, i < 13) → toksP (l.flatMap (colP f)) = (l.map (colS f)).flatMap colT
  | [], _ => rfl
  | i :: l, h => by
    rw [List.flatMap_cons, toksP_app, List.map_cons, List.flatMap_cons, colP_toks f (h i (List.mem_cons_self ..)), colsS_toks f l fun j hj => h j (List.mem_cons_of_mem _ hj)]
theorem t_ok : nameOK (⟨#[116]⟩ : ByteArray) := by unfold nameOK; decide +kernel
theorem head_toks : toksP headP = [tokW (⟨#[99, 114, 101, 97, 116, 101]⟩ : ByteArray), tokW (⟨#[116, 97, 98, 108, 101]⟩ : ByteArray), tokN (⟨#[116]⟩ : ByteArray), tokW (⟨#[40]⟩ : ByteArray)] := by
  unfold headP
  simp only [toksP_cons, kt_bl, kt_40, toksP_nil, name_toks t_ok]
  rw [pk_lower (u := (⟨#[99, 114, 101, 97, 116, 101]⟩ : ByteArray)) (by decide +kernel) (by decide +kernel), pk_lower (u := (⟨#[116, 97, 98, 108, 101]⟩ : ByteArray)) (by decide +kernel) (by decide +kernel)]
  rfl
theorem tail_toks {a b : Nat} (ha : a < 13) (hb : b < 13) : toksP (tailP a b) = [tokW (⟨#[112, 114, 105, 109, 97, 114, 121]⟩ : ByteArray), tokW (⟨#[107, 101, 121]⟩ : ByteArray), tokW (⟨#[40]⟩ : ByteArray), tokN (ltr a), tokW (⟨#[44]⟩ : ByteArray), tokN (ltr b), tokW (⟨#[41]⟩ : ByteArray), tokW (⟨#[41]⟩ : ByteArray)] := by
  unfold tailP
  simp only [toksP_cons, kt_bl, kt_40, kt_41, kt_44, toksP_nil, name_toks (ltr_ok a ha), name_toks (ltr_ok b hb)]
  rw [pk_lower (u := (⟨#[112, 114, 105, 109, 97, 114, 121]⟩ : ByteArray)) (by decide +kernel) (by decide +kernel), pk_lower (u := (⟨#[107, 101, 121]⟩ : ByteArray)) (by decide +kernel) (by decide +kernel)]
  rfl
theorem all_toks (f : Nat → Bool) {m a b : Nat} (hm : m ≤ 13) (ha : a < 13) (hb : b < 13) : toksP (bodyP f m ++ tailP a b) = tokW (⟨#[99, 114, 101, 97, 116, 101]⟩ : ByteArray) :: tokW (⟨#[116, 97, 98, 108, 101]⟩ : ByteArray) :: tableT (⟨#[116]⟩ : ByteArray) (colsS f m) (ltr a) (ltr b) := by
  unfold bodyP tableT colsS
  rw [toksP_app, toksP_app, head_toks, tail_toks ha hb, colsS_toks f _ fun i hi => by have := List.mem_range.1 hi; omega]
  simp
theorem body_size (f : Nat → Bool) : ∀ m, (bodyB f m).size ≤ 16 + 8 * m
  | 0 => Nat.le_refl 16
  | m + 1 => by
    have := body_size f m
    rw [bodyB, ByteArray.size_append, colB, ByteArray.size_append]
    have e : (ltr m).size = 1 := rfl
    have e2 : (if f m then (⟨#[32, 73, 78, 84, 44, 32]⟩ : ByteArray) else (⟨#[32, 116, 101, 120, 116, 44, 32]⟩ : ByteArray)).size ≤ 7 := by cases f m <;> decide
    omega
theorem all_size (f : Nat → Bool) (m a b : Nat) (hm : m ≤ 13) : (catP (bodyP f m ++ tailP a b)).size ≤ 1000 := by
  rw [catP_app, body_cat, end_cat, ByteArray.size_append]
  have := body_size f m
  have e : (endB a b).size = 19 := rfl
  omega

theorem typed_size {c : Cl} (h : c.name.size ≤ 1) : (catP (typedP c)).size ≤ 6 := by
  unfold typedP
  have e : catP [Pc.wd c.name, .bl, .wd (if c.ty = 1 then (⟨#[84, 69, 88, 84]⟩ : ByteArray) else (⟨#[73, 78, 84]⟩ : ByteArray))] = c.name ++ ((⟨#[32]⟩ : ByteArray) ++ ((if c.ty = 1 then (⟨#[84, 69, 88, 84]⟩ : ByteArray) else (⟨#[73, 78, 84]⟩ : ByteArray)) ++ ⟨#[]⟩)) := rfl
  rw [e]
  simp only [ByteArray.size_append]
  split
  · show c.name.size + (1 + (4 + 0)) ≤ 6; omega
  · show c.name.size + (1 + (3 + 0)) ≤ 6; omega
theorem typeds_flat : ∀ (l : List Cl), (∀ c ∈ l, c.name.size ≤ 1) → (catP ((l.map typedP).flatMap fun b => commaP ++ b)).size ≤ 8 * l.length
  | [], _ => Nat.le_refl _
  | c :: l, h => by
    have h1 := typeds_flat l fun x hx => h x (List.mem_cons_of_mem _ hx)
    have h2 := typed_size (h c (List.mem_cons_self ..))
    rw [List.map_cons, List.flatMap_cons, catP_app, catP_app, ByteArray.size_append, ByteArray.size_append, List.length_cons]
    have e : (catP commaP).size = 2 := rfl
    omega
theorem typeds_size (l : List Cl) (h : ∀ c ∈ l, c.name.size ≤ 1) : (catP (sepP commaP (l.map typedP))).size ≤ 8 * l.length := by
  cases l with
  | nil => exact Nat.le_refl _
  | cons c l =>
    have h1 := typeds_flat l fun x hx => h x (List.mem_cons_of_mem _ hx)
    have h2 := typed_size (h c (List.mem_cons_self ..))
    rw [List.map_cons, sepP, catP_app, ByteArray.size_append, List.length_cons]
    omega
theorem tcols_eq {nm : ByteArray} {C : List Cl} {pk ck : ByteArray} (h : ck ≠ pk) : (tableX nm C pk ck).tcols = C.filter fun c => !bEq c.name pk && !bEq c.name ck := by
  unfold tableX
  rw [place_fold pk ck h]
  rfl
theorem table_size {nm : ByteArray} {C : List Cl} {pk ck : ByteArray} (h : tableOK nm C pk ck) (hn : nm.size ≤ 1) (hs : ∀ c ∈ C, c.name.size ≤ 1) : (textS ⟨tableX nm C pk ck, []⟩).size ≤ 1000 := by
  obtain ⟨p, c, D, hp, hc, e0, e1, ok⟩ := table_canon h
  have hD : D = C.filter fun c => !bEq c.name pk && !bEq c.name ck := by
    have := tcols_eq (nm := nm) (C := C) h.2.2.2.2.2.2
    rw [e0] at this
    exact this
  have hDs : ∀ x ∈ D, x.name.size ≤ 1 := fun x hx => by rw [hD] at hx; exact hs x (List.mem_filter.1 hx).1
  have hpk : pk.size ≤ 1 := by obtain ⟨y, hy, rfl⟩ := List.mem_map.1 h.2.2.2.2.1; exact hs y hy
  have hck : ck.size ≤ 1 := by obtain ⟨y, hy, rfl⟩ := List.mem_map.1 h.2.2.2.2.2.1; exact hs y hy
  have hl : (p :: c :: D).length ≤ 10 := ok.2.2.2.1
  have e : textS ⟨tableX nm C pk ck, []⟩ = catP ([.wd (⟨#[67, 82, 69, 65, 84, 69]⟩ : ByteArray), .bl, .wd (⟨#[84, 65, 66, 76, 69]⟩ : ByteArray), .bl, .wd nm, .bl, .sg 40] ++ sepP commaP ((p :: c :: D).map typedP) ++ [.sg 44, .bl, .wd (⟨#[80, 82, 73, 77, 65, 82, 89]⟩ : ByteArray), .bl, .wd (⟨#[75, 69, 89]⟩ : ByteArray), .bl, .sg 40, .wd pk, .sg 44, .bl, .wd ck, .sg 41, .sg 41]) := by
    rw [e0, ← hp, ← hc]; rfl
  rw [e, catP_app, catP_app, ByteArray.size_append, ByteArray.size_append]
  have h1 := typeds_size (p :: c :: D) (by
    intro x hx
    rcases List.mem_cons.1 hx with rfl | hx
    · rw [hp]; exact hpk
    · rcases List.mem_cons.1 hx with rfl | hx
      · rw [hc]; exact hck
      · exact hDs x hx)
  have e2 : (catP [.wd (⟨#[67, 82, 69, 65, 84, 69]⟩ : ByteArray), .bl, .wd (⟨#[84, 65, 66, 76, 69]⟩ : ByteArray), .bl, .wd nm, .bl, .sg 40]).size = 15 + nm.size := by
    have : catP [.wd (⟨#[67, 82, 69, 65, 84, 69]⟩ : ByteArray), .bl, .wd (⟨#[84, 65, 66, 76, 69]⟩ : ByteArray), .bl, .wd nm, .bl, .sg 40] = (⟨#[67, 82, 69, 65, 84, 69, 32, 84, 65, 66, 76, 69, 32]⟩ : ByteArray) ++ (nm ++ (⟨#[32, 40]⟩ : ByteArray)) := by apply ByteArray.ext; apply Array.ext'; simp [catP, Pc.text]
    rw [this, ByteArray.size_append, ByteArray.size_append]
    show 13 + (nm.size + 2) = _
    omega
  have e3 : (catP [.sg 44, .bl, .wd (⟨#[80, 82, 73, 77, 65, 82, 89]⟩ : ByteArray), .bl, .wd (⟨#[75, 69, 89]⟩ : ByteArray), .bl, .sg 40, .wd pk, .sg 44, .bl, .wd ck, .sg 41, .sg 41]).size = 19 + pk.size + ck.size := by
    have : catP [.sg 44, .bl, .wd (⟨#[80, 82, 73, 77, 65, 82, 89]⟩ : ByteArray), .bl, .wd (⟨#[75, 69, 89]⟩ : ByteArray), .bl, .sg 40, .wd pk, .sg 44, .bl, .wd ck, .sg 41, .sg 41] = (⟨#[44, 32, 80, 82, 73, 77, 65, 82, 89, 32, 75, 69, 89, 32, 40]⟩ : ByteArray) ++ (pk ++ ((⟨#[44, 32]⟩ : ByteArray) ++ (ck ++ (⟨#[41, 41]⟩ : ByteArray)))) := by apply ByteArray.ext; apply Array.ext'; simp [catP, Pc.text]
    rw [this]
    simp only [ByteArray.size_append]
    show 15 + (pk.size + (2 + (ck.size + 2))) = _
    omega
  omega
theorem tables_ok (f : Nat → Bool) {m a b : Nat} (hm : m ≤ 10) (ha : a < m) (hb : b < m) (hab : a ≠ b) : parseL (bodyB f m ++ endB a b) = (⟨tableX (⟨#[116]⟩ : ByteArray) (colsS f m) (ltr a) (ltr b), []⟩, 0, 0) := by
  have h := tbl_ok f hm ha hb hab
  have hx := cat_lxF (bodyP f m ++ tailP a b) false (mem_ok_app (bodyP_ok f (by omega)) (tailP_ok (by omega) (by omega))) (all_nb f m a b)
  rw [all_toks f (by omega) (by omega) (by omega)] at hx
  have hs := all_size f m a b (by omega)
  rw [← body_cat, ← end_cat, ← catP_app]
  refine parseL_go (nd := .plain (tableX (⟨#[116]⟩ : ByteArray) (colsS f m) (ltr a) (ltr b))) (L := tokW (⟨#[99, 114, 101, 97, 116, 101]⟩ : ByteArray) :: tokW (⟨#[116, 97, 98, 108, 101]⟩ : ByteArray) :: tableT (⟨#[116]⟩ : ByteArray) (colsS f m) (ltr a) (ltr b)) (R := []) (.plain (.table _ _ _ _ h)) (Or.inl rfl) (by rw [List.append_nil]; exact hx) hs ?_
  refine table_size h (by decide) ?_
  intro c hc
  obtain ⟨i, hi, rfl⟩ := List.mem_map.1 hc
  exact Nat.le_refl 1
theorem tables_part (f : Nat → Bool) {m a b : Nat} (hm : m ≤ 10) (ha : a < m) (hb : b < m) (hab : a ≠ b) :
    (tableX (⟨#[116]⟩ : ByteArray) (colsS f m) (ltr a) (ltr b)).kind = 1 ∧ (tableX (⟨#[116]⟩ : ByteArray) (colsS f m) (ltr a) (ltr b)).part.name = ltr a ∧ (tableX (⟨#[116]⟩ : ByteArray) (colsS f m) (ltr a) (ltr b)).clus.name = ltr b := by
  obtain ⟨p, c, D, hp, hc, e0, e1, ok⟩ := table_canon (tbl_ok f hm ha hb hab)
  rw [e0]
  exact ⟨rfl, hp, hc⟩
def restS (f : Nat → Bool) (a b i : Nat) : List Cl := ((List.range i).filter fun j => decide (j ≠ a) && decide (j ≠ b)).map (colS f)
theorem rest_key (f : Nat → Bool) {a b i : Nat} (h : i = a ∨ i = b) : restS f a b (i + 1) = restS f a b i := by
  unfold restS
  rw [List.range_succ, List.filter_append]
  have : ([i].filter fun j => decide (j ≠ a) && decide (j ≠ b)) = [] := by
    rcases h with rfl | rfl <;> simp
  rw [this, List.append_nil]
theorem rest_col (f : Nat → Bool) {a b i : Nat} (h1 : i ≠ a) (h2 : i ≠ b) : restS f a b (i + 1) = restS f a b i ++ [colS f i] := by
  unfold restS
  rw [List.range_succ, List.filter_append]
  have : ([i].filter fun j => decide (j ≠ a) && decide (j ≠ b)) = [i] := by simp [h1, h2]
  rw [this, List.map_append]; rfl
theorem tables_rest (f : Nat → Bool) {m a b : Nat} (hm : m ≤ 13) (ha : a < m) (hb : b < m) (hab : a ≠ b) : (tableX (⟨#[116]⟩ : ByteArray) (colsS f m) (ltr a) (ltr b)).tcols = restS f a b m := by
  rw [tcols_eq (fun h => hab (ltr_inj b (by omega) a (by omega) h).symm)]
  unfold colsS restS
  rw [List.filter_map]
  congr 1
  refine List.filter_congr fun j hj => ?_
  have hj := List.mem_range.1 hj
  show (!bEq (ltr j) (ltr a) && !bEq (ltr j) (ltr b)) = _
  have key : ∀ c, c < m → (!bEq (ltr j) (ltr c)) = decide (j ≠ c) := by
    intro c hc
    by_cases h : j = c
    · subst h; simp [bEq]
    · have : ltr j ≠ ltr c := fun he => h (ltr_inj j (by omega) c (by omega) he)
      simp [bEq, this, h]
  rw [key a ha, key b hb]
theorem rest_pre (f : Nat → Bool) (a b : Nat) {i m : Nat} (h : i ≤ m) : ∃ r, restS f a b m = restS f a b i ++ r := by
  induction h with
  | refl => exact ⟨[], by simp⟩
  | step _ ih =>
    rename_i k _
    obtain ⟨r, hr⟩ := ih
    by_cases h1 : k = a ∨ k = b
    · exact ⟨r, by rw [Nat.succ_eq_add_one, rest_key f h1, hr]⟩
    · exact ⟨r ++ [colS f k], by rw [Nat.succ_eq_add_one, rest_col f (fun h => h1 (Or.inl h)) (fun h => h1 (Or.inr h)), hr, List.append_assoc]⟩
theorem rest_len (f : Nat → Bool) {a b : Nat} (hab : a ≠ b) : ∀ m, a < m → b < m → (restS f a b m).length + 2 = m := by
  have h1 : ∀ m, m ≤ a → m ≤ b → (restS f a b m).length = m := by
    intro m
    induction m with
    | zero => intro _ _; rfl
    | succ m ih => intro ha hb; rw [rest_col f (by omega) (by omega), List.length_append, ih (by omega) (by omega)]; rfl
  have h2 : ∀ m, (a < m ∧ m ≤ b) ∨ (b < m ∧ m ≤ a) → (restS f a b m).length + 1 = m := by
    intro m
    induction m with
    | zero => intro h; omega
    | succ m ih =>
      intro h
      by_cases hk : m = a ∨ m = b
      · rw [rest_key f hk, h1 m (by omega) (by omega)]
      · rw [rest_col f (by omega) (by omega), List.length_append]
        have := ih (by omega)
        show _ + 1 + 1 = _; omega
  intro m
  induction m with
  | zero => intro h; omega
  | succ m ih =>
    intro ha hb
    by_cases hk : m = a ∨ m = b
    · rw [rest_key f hk]
      have := h2 m (by omega)
      omega
    · rw [rest_col f (by omega) (by omega), List.length_append]
      have := ih (by omega) (by omega)
      show _ + 1 + 2 = _; omega
theorem wid_low (l : List UInt8) (h : ∀ c ∈ l, c.toNat < 128) : (Pc.wd ⟨l.toArray⟩).wid = (⟨l.toArray⟩ : ByteArray).size := low_count h
theorem col_wid (f : Nat → Bool) : ∀ i < 13, ((colP f i).map Pc.wid).sum = (colB f i).size := by
  intro i hi
  have h1 : (Pc.wd (ltr i)).wid = 1 := wid_low [UInt8.ofNat (97 + i)] (by
    intro c hc
    rw [List.mem_singleton.1 hc]
    have : (UInt8.ofNat (97 + i)).toNat = 97 + i := by simp; omega
    omega)
  unfold colP colB
  cases f i with
  | false =>
    have h2 : (Pc.wd (⟨#[116, 101, 120, 116]⟩ : ByteArray)).wid = 4 := wid_low [116, 101, 120, 116] (by decide)
    show (Pc.wd (ltr i)).wid + (1 + ((Pc.wd (⟨#[116, 101, 120, 116]⟩ : ByteArray)).wid + (1 + (1 + 0)))) = _
    rw [h1, h2]; rfl
  | true =>
    have h2 : (Pc.wd (⟨#[73, 78, 84]⟩ : ByteArray)).wid = 3 := wid_low [73, 78, 84] (by decide)
    show (Pc.wd (ltr i)).wid + (1 + ((Pc.wd (⟨#[73, 78, 84]⟩ : ByteArray)).wid + (1 + (1 + 0)))) = _
    rw [h1, h2]; rfl
theorem body_wid (f : Nat → Bool) : ∀ m, m ≤ 13 → ((bodyP f m).map Pc.wid).sum = (bodyB f m).size
  | 0, _ => by
    have h1 : (Pc.wd (⟨#[99, 114, 101, 97, 116, 101]⟩ : ByteArray)).wid = 6 := wid_low [99, 114, 101, 97, 116, 101] (by decide)
    have h2 : (Pc.wd (⟨#[116, 97, 98, 108, 101]⟩ : ByteArray)).wid = 5 := wid_low [116, 97, 98, 108, 101] (by decide)
    have h3 : (Pc.wd (⟨#[116]⟩ : ByteArray)).wid = 1 := wid_low [116] (by decide)
    show (Pc.wd (⟨#[99, 114, 101, 97, 116, 101]⟩ : ByteArray)).wid + (1 + ((Pc.wd (⟨#[116, 97, 98, 108, 101]⟩ : ByteArray)).wid + (1 + ((Pc.wd (⟨#[116]⟩ : ByteArray)).wid + (1 + (1 + 0)))))) = _
    rw [h1, h2, h3]; rfl
  | m + 1, hm => by
    rw [bodyP_succ, List.map_append, List.sum_append, body_wid f m (by omega), col_wid f m (by omega), bodyB, ByteArray.size_append]
theorem tables_bad (f : Nat → Bool) {a b : Nat} (ha : a < 11) (hb : b < 11) : parseL (bodyB f 11 ++ endB a b) = (Stt.zero, (((bodyB f 10).size : Nat) : Int), 3) := by
  have hx := cat_lxA (bodyP f 11 ++ tailP a b) false (mem_ok_app (bodyP_ok f (by omega)) (tailP_ok (by omega) (by omega))) (all_nb f 11 a b)
  have hs := all_size f 11 a b (by omega)
  rw [← body_cat f 11, ← end_cat, ← catP_app]
  unfold parseL
  rw [hx.lexL hs]
  simp only
  rw [if_neg (by decide)]
  have hF : (tksAt (bodyP f 11 ++ tailP a b) 0).map Tk.fo = tokW (⟨#[99, 114, 101, 97, 116, 101]⟩ : ByteArray) :: tokW (⟨#[116, 97, 98, 108, 101]⟩ : ByteArray) :: tokN (⟨#[116]⟩ : ByteArray) :: tokW (⟨#[40]⟩ : ByteArray) :: ((colsS f 10).flatMap colT ++ tokN (colS f 10).name :: (kindT (colS f 10).ty :: tokW (⟨#[44]⟩ : ByteArray) :: toksP (tailP a b))) := by
    rw [tksAt_fo, bodyP_succ, toksP_app, toksP_app, colP_toks f (by omega)]
    unfold bodyP colsS
    rw [toksP_app, head_toks, colsS_toks f _ fun i hi => by have := List.mem_range.1 hi; omega]
    simp [colT]
  have hT : tksAt (bodyP f 11 ++ tailP a b) 0 = tksAt (bodyP f 10) 0 ++ ⟨1, fold (ltr 10), 0, (bodyB f 10).size⟩ :: tksAt ((colP f 10).tail ++ tailP a b) ((bodyB f 10).size + (Pc.wd (ltr 10)).wid) := by
    rw [bodyP_succ, List.append_assoc, tksAt_app, body_wid f 10 (by omega), Nat.zero_add]
    rfl
  have hR : (kindT (colS f 10).ty :: tokW (⟨#[44]⟩ : ByteArray) :: toksP (tailP a b)).length = (tksAt ((colP f 10).tail ++ tailP a b) ((bodyB f 10).size + (Pc.wd (ltr 10)).wid)).length := by
    have e : (tksAt ((colP f 10).tail ++ tailP a b) ((bodyB f 10).size + (Pc.wd (ltr 10)).wid)).length = (toksP ((colP f 10).tail ++ tailP a b)).length := by
      rw [← tksAt_fo _ ((bodyB f 10).size + (Pc.wd (ltr 10)).wid), List.length_map]
    rw [e, toksP_app, List.length_append]
    simp only [List.length_cons]
    have e2 : (toksP (colP f 10).tail).length = 2 := rfl
    omega
  have hp := parseT_table (X := ⟨tksAt (bodyP f 11 ++ tailP a b) 0, (pts (catP (bodyP f 11 ++ tailP a b))).length⟩) (c := colS f 10) hF t_ok (cols_ok f (by omega)) (ltr_ok 10 (by omega)) (by rw [cols_names]; exact ltrs_dist (by omega)) (by simp [colsS]) hT hR
  rw [hp]
end Cle
end Go.Proofs.YtfbgdjcnlnfoaaaGreatDoor

