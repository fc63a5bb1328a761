/- Plain: lex: a blank or a comment more between two tokens. -/
import Derived.Test.YtfbgdjcnlnfoaaaDoorPlainS
namespace Go.Proofs.YtfbgdjcnlnfoaaaDoor
namespace Cle

/-- A code point stands as it did where the bytes up to a place do, and no continuation stands behind them. -/
theorem decN_same (n n' b0 b1 b2 b3 c1 c2 c3 g : Nat) (hn : 1 ≤ n) (hg : 1 ≤ g) (h1 : 1 < g → c1 = b1) (h2 : 2 < g → c2 = b2) (h3 : 3 < g → c3 = b3) (hgn : g ≤ n) (hgn' : g < n')
    (e1 : g = 1 → c1 / 64 ≠ 2) (e2 : g = 2 → c2 / 64 ≠ 2) (e3 : g = 3 → c3 / 64 ≠ 2) (hw : (Lib.decodeN n b0 b1 b2 b3).2 ≤ g) :
    Lib.decodeN n' b0 c1 c2 c3 = Lib.decodeN n b0 b1 b2 b3 := by
  by_cases hok : (Lib.decodeN n b0 b1 b2 b3).1 ≠ 65533 ∨ 1 < (Lib.decodeN n b0 b1 b2 b3).2
  · obtain ⟨w, hwd⟩ : ∃ w, (Lib.decodeN n b0 b1 b2 b3).2 = w := ⟨_, rfl⟩
    rw [hwd] at hw
    have hw1 : 1 ≤ w := by
      rcases decN_facts n b0 b1 b2 b3 hn with ⟨h, _⟩ | ⟨_, h, _⟩ <;> omega
    have hc := decN_cut n b0 b1 b2 b3 c1 c2 c3 w hwd (fun h => h1 (by omega)) (fun h => h2 (by omega)) (fun h => h3 (by omega)) hok
    rw [← hc]
    exact decN_ok w n' b0 c1 c2 c3 c1 c2 c3 hw1 (by omega) (fun _ => rfl) (fun _ => rfl) (fun _ => rfl) (by rw [hc]; exact hok)
  · have hok' : ¬ ((Lib.decodeN n' b0 c1 c2 c3).1 ≠ 65533 ∨ 1 < (Lib.decodeN n' b0 c1 c2 c3).2) := by
      intro hk
      apply hok
      obtain ⟨w, hwd⟩ : ∃ w, (Lib.decodeN n' b0 c1 c2 c3).2 = w := ⟨_, rfl⟩
      have hwg : 1 ≤ w ∧ w ≤ g := by
        rcases decN_facts n' b0 c1 c2 c3 (by omega) with ⟨h, _⟩ | ⟨_, ha, _, hb, hc1, hc2, hc3⟩
        · omega
        · rw [hwd] at ha hb hc2 hc3
          refine ⟨by omega, ?_⟩
          refine Decidable.byContradiction fun hlt => ?_
          have hlt' : g < w := by omega
          have : g = 1 ∨ g = 2 ∨ g = 3 := by omega
          rcases this with h | h | h
          · exact e1 h hc1
          · exact e2 h (hc2 (by omega))
          · exact e3 h (hc3 (by omega))
      have hc := decN_cut n' b0 c1 c2 c3 b1 b2 b3 w hwd (fun h => (h1 (by omega)).symm) (fun h => (h2 (by omega)).symm) (fun h => (h3 (by omega)).symm) hk
      have := decN_ok w n b0 b1 b2 b3 b1 b2 b3 hwg.1 (by omega) (fun _ => rfl) (fun _ => rfl) (fun _ => rfl) (by rw [hc]; exact hk)
      rw [this, hc]; exact hk
    have bad : ∀ x : Nat × Nat, ¬ (x.1 ≠ 65533 ∨ 1 < x.2) → 1 ≤ x.2 → x = (65533, 1) := by
      intro x h hx
      have h1 : x.1 = 65533 := Decidable.byContradiction fun e => h (.inl e)
      have h2 : ¬ 1 < x.2 := fun e => h (.inr e)
      exact Prod.ext h1 (by show x.2 = 1; omega)
    have p1 : 1 ≤ (Lib.decodeN n b0 b1 b2 b3).2 := by rcases decN_facts n b0 b1 b2 b3 hn with ⟨h, _⟩ | ⟨_, h, _⟩ <;> omega
    have p2 : 1 ≤ (Lib.decodeN n' b0 c1 c2 c3).2 := by rcases decN_facts n' b0 c1 c2 c3 (by omega) with ⟨h, _⟩ | ⟨_, h, _⟩ <;> omega
    rw [bad _ hok p1, bad _ hok' p2]

/-- Two texts, alike up to a place at which a code point begins; there the other one has a sign below 128. -/
theorem dec_alike (s u : ByteArray) (d : Nat) (hb : ∀ k, k < d → bY u k = bY s k) (hd : d ≤ s.size) (hu : d < u.size) (hc : bY u d < 128) (p : Nat) (hp : p < d) (hw : p + (Utf8.decode s p).2 ≤ d) :
    Utf8.decode u p = Utf8.decode s p := by
  rw [dec_bY] at hw
  rw [dec_bY, dec_bY s p, hb p hp]
  refine decN_same (s.size - p) (u.size - p) (bY s p) (bY s (p + 1)) (bY s (p + 2)) (bY s (p + 3)) _ _ _ (d - p) (by omega) (by omega) (fun h => hb _ (by omega)) (fun h => hb _ (by omega)) (fun h => hb _ (by omega)) (by omega) (by omega) (fun h => ?_) (fun h => ?_) (fun h => ?_) (by omega)
  · rw [show p + 1 = d by omega]; omega
  · rw [show p + 2 = d by omega]; omega
  · rw [show p + 3 = d by omega]; omega

theorem drop_at (s : ByteArray) : ∀ a pos, pos ≤ s.size → a ≤ (ptsAt s pos).length → (ptsAt s pos).drop a = ptsAt s (byteAt s (ptsAt s pos) a) := by
  intro a
  induction a with
  | zero => intro pos h _; rw [List.drop_zero, byteAt_head s pos h]
  | succ a ih =>
    intro pos h hl
    by_cases hp : pos < s.size
    · have hw := width_le s pos hp
      rw [ptsAt_step s pos hp] at hl ⊢
      rw [List.drop_succ_cons, ih _ hw (by simpa using hl)]; rfl
    · rw [ptsAt_end s pos hp] at hl; simp at hl
theorem take_alike (s u : ByteArray) (d : Nat) (hb : ∀ k, k < d → bY u k = bY s k) (hd : d ≤ s.size) (hu : d < u.size) (hc : bY u d < 128) :
    ∀ a pos, pos ≤ s.size → a ≤ (ptsAt s pos).length → byteAt s (ptsAt s pos) a = d → ptsAt u pos = (ptsAt s pos).take a ++ ptsAt u d := by
  intro a
  induction a with
  | zero => intro pos h _ he; rw [byteAt_head s pos h] at he; rw [he]; rfl
  | succ a ih =>
    intro pos h hl he
    by_cases hp : pos < s.size
    · have hw := width_le s pos hp
      have hw0 := width_pos s pos hp
      rw [ptsAt_step s pos hp] at hl he
      have he' : byteAt s (ptsAt s (pos + (Utf8.decode s pos).2)) a = d := he
      have hge := (byteAt_ge s a (pos + (Utf8.decode s pos).2) hw).1
      rw [he'] at hge
      have hda := dec_alike s u d hb hd hu hc pos (by omega) hge
      rw [ptsAt_step s pos hp, List.take_succ_cons, List.cons_append]
      rw [ptsAt_step u pos (by omega), hda, ih _ hw (by simpa using hl) he']
    · rw [ptsAt_end s pos hp] at hl; simp at hl

/-- A text cut at a code point, something laid between. -/
structure Ins (s u r B : ByteArray) (a d : Nat) : Prop where
  cs : Cut s r ((pts s).take a) d
  cu : Cut u (B ++ r) ((pts s).take a) d
  al : a ≤ (pts s).length
  at_ : byteAt s (pts s) a = d
  head : (pts u)[a]? = some ⟨bY u d, d, 1⟩
  lo : bY u d = 32 ∨ bY u d = 10 ∨ bY u d = 13
  eq : ∀ k, k < d → bY u k = bY s k

theorem bY_size (s : ByteArray) (k : Nat) (h : 0 < bY s k) : k < s.size := by
  refine Decidable.byContradiction fun hn => ?_
  rw [get_oob s k hn] at h
  exact absurd h (by omega)
theorem ins_of (s B : ByteArray) (a : Nat) (al : a ≤ (pts s).length) (hB : bY B 0 = 32 ∨ bY B 0 = 10 ∨ bY B 0 = 13) :
    Ins s ((s.extract 0 (byteAt s (pts s) a) ++ B) ++ s.extract (byteAt s (pts s) a) s.size) (s.extract (byteAt s (pts s) a) s.size) B a (byteAt s (pts s) a) := by
  obtain ⟨d, hd⟩ : ∃ d, byteAt s (pts s) a = d := ⟨_, rfl⟩
  have hdl := byteAt_le s a
  rw [hd] at hdl ⊢
  have hB0 : 0 < B.size := bY_size B 0 (by omega)
  have hpre : (s.extract 0 d).size = d := by rw [ByteArray.size_extract]; omega
  obtain ⟨r, hr⟩ : ∃ r, s.extract d s.size = r := ⟨_, rfl⟩
  obtain ⟨p, hp⟩ : ∃ p, s.extract 0 d = p := ⟨_, rfl⟩
  have hspl := split_at s d hdl
  rw [hr, hp] at hspl ⊢
  rw [hp] at hpre
  have e1 : (p ++ B) ++ r = p ++ (B ++ r) := app_assoc p B r
  have hbs : ∀ k, k < d → bY ((p ++ B) ++ r) k = bY s k := by
    intro k hk
    rw [e1, hspl, bY_app_lo _ _ k (by omega), bY_app_lo _ _ k (by omega)]
  have hbd : bY ((p ++ B) ++ r) d = bY B 0 := by
    rw [e1]
    have := bY_app_hi p (B ++ r) 0
    rw [hpre, Nat.add_zero] at this
    rw [this, bY_app_lo _ _ 0 hB0]
  have hus : ((p ++ B) ++ r).size = d + (B ++ r).size := by rw [e1, ByteArray.size_append, hpre]
  have hlt : d < ((p ++ B) ++ r).size := by rw [hus, ByteArray.size_append]; omega
  have hss : s.size = d + r.size := by
    have := congrArg ByteArray.size hspl
    rw [ByteArray.size_append, hpre] at this
    exact this
  have hps : pts s = (pts s).take a ++ (pts r).map (Pt.shift d) := by
    have h1 := drop_at s a 0 (by omega) (by rw [← pts_eq]; exact al)
    rw [← pts_eq, hd] at h1
    have h2 := ptsAt_sub s d s.size 0 (by omega)
    rw [Nat.add_zero, hr, ← pts_eq] at h2
    rw [h2] at h1
    rw [← h1]; exact (List.take_append_drop a _).symm
  have hpu : pts ((p ++ B) ++ r) = (pts s).take a ++ (pts (B ++ r)).map (Pt.shift d) := by
    have h1 := take_alike s ((p ++ B) ++ r) d hbs hdl hlt (by omega) a 0 (by omega) (by rw [← pts_eq]; exact al) (by rw [← pts_eq]; exact hd)
    rw [← pts_eq, ← pts_eq] at h1
    rw [h1]
    congr 1
    have h2 := ptsAt_shift p (B ++ r) (B ++ r).size 0 (by omega)
    rw [hpre, Nat.add_zero, ← pts_eq] at h2
    rw [e1]; exact h2
  have htl : ((pts s).take a).length = a := by rw [List.length_take]; omega
  refine ⟨⟨?_, hss, hps⟩, ⟨?_, hus, hpu⟩, al, hd, ?_, by rw [hbd]; exact hB, hbs⟩
  · have : s.data.toList = p.data.toList ++ r.data.toList := by rw [hspl, ByteArray.data_append, Array.toList_append]
    rw [this, List.drop_append_of_le_length (by show d ≤ p.size; omega), List.drop_eq_nil_of_le (by show p.size ≤ d; omega), List.nil_append]
  · have : ((p ++ B) ++ r).data.toList = p.data.toList ++ (B ++ r).data.toList := by rw [e1, ByteArray.data_append, Array.toList_append]
    rw [this, List.drop_append_of_le_length (by show d ≤ p.size; omega), List.drop_eq_nil_of_le (by show p.size ≤ d; omega), List.nil_append]
  · rw [hpu, List.getElem?_append_right (by omega), htl, Nat.sub_self, List.getElem?_map, pts_eq, ptsAt_step _ 0 (by rw [ByteArray.size_append]; omega)]
    have hdec : Utf8.decode (B ++ r) 0 = (bY (B ++ r) 0, 1) := dec_ascii _ 0 (by rw [ByteArray.size_append]; omega) (by rw [bY_app_lo _ _ 0 hB0]; omega)
    rw [hdec, List.getElem?_cons_zero, Option.map_some, hbd, bY_app_lo _ _ 0 hB0]
    simp [Pt.shift]

end Cle
end Go.Proofs.YtfbgdjcnlnfoaaaDoor
