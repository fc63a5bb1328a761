/- Walks: the law LexWords. -/
import Derived.Test.YtljoenpgokhekaaDoorLawLexB
import Derived.Test.YtljoenpgokhekaaDoorPlainU
import Derived.Test.YtljoenpgokhekaaDoorKitC
namespace Go.Proofs.YtljoenpgokhekaaDoor
open Go.RowKit
open Cle

theorem itoa_d (v : Nat) (h : v < 10) (w : World) :
    Calls Tryd.prog 24 #[.int .i64 v] w fun e w' => e = .returned (.string ⟨(dec v).toArray⟩) ∧ w' = w := by
  have HT := Lib.hid (ten_at v h)
  go_enter Tryd.func24, Tryd.ntmps24
  go_wp2_with fail
  go_ret
  exact ⟨ret_str (by rw [show (⟨#[48, 49, 50, 51, 52, 53, 54, 55, 56, 57]⟩ : ByteArray).extract v (v + 1) = _ from HT.out, dec_one h]), rfl⟩
set_option maxRecDepth 100000 in
theorem itoa_n (v : Nat) (h : v < 100) (w : World) :
    Calls Tryd.prog 24 #[.int .i64 v] w fun e w' => e = .returned (.string ⟨(dec v).toArray⟩) ∧ ∃ m, w' = w.drewN m := by
  by_cases h10 : v < 10
  · exact (itoa_d v h10 w).mono fun e w' h => ⟨h.1, 0, h.2⟩
  · have HT := Lib.hid (ten_at (v % 10) (by omega))
    have hc := fun w => itoa_d (v / 10) (by omega) w
    have hsz : (⟨(dec (v / 10)).toArray⟩ : ByteArray).size = 1 := by rw [dec_one (by omega)]; rfl
    have HD := Lib.hid (dec_more (n := v) (by omega))
    obtain ⟨S, hS⟩ : ∃ S : ByteArray, S = ⟨(dec (v / 10)).toArray⟩ := ⟨_, rfl⟩
    have HS := Lib.hid hS
    rw [← hS] at hc hsz
    clear hS
    have e1 : ((v / 10 : Nat) : Int) = (v : Int) / 10 := by omega
    rw [e1] at hc
    clear e1
    go_enter Tryd.func24, Tryd.ntmps24
    have hc' := Lib.hid hc
    clear hc
    go_wp2_with fail
    go_quiet ((go_at_call 24; with_reducible exact Calls.quiet_of_same (hc'.out _)))
    go_wp2_with fail
    go_ret
    exact ⟨ret_str (by rw [show (⟨#[48, 49, 50, 51, 52, 53, 54, 55, 56, 57]⟩ : ByteArray).extract (v % 10) (v % 10 + 1) = _ from HT.out, HS.out, HD.out]; exact (mk_app _ _).symm), _, rfl⟩
set_option maxRecDepth 100000 in
theorem itoa_s (n : Int) (h0 : -100 < n) (h1 : n < 100) (w : World) :
    Calls Tryd.prog 24 #[.int .i64 n] w fun e w' => e = .returned (.string (itoaS n)) ∧ ∃ m, w' = w.drewN m := by
  by_cases hn : n < 0
  · obtain ⟨m, hm⟩ : ∃ m : Nat, -n = m := ⟨(-n).toNat, by omega⟩
    have HE : Hid (itoaS n = ⟨#[45]⟩ ++ ⟨(dec m).toArray⟩) := by
      show _ = _
      unfold itoaS
      rw [decide_eq_true hn, show n.natAbs = m by omega]
      exact mk_app (minusL true) (dec m)
    have hc := fun w => itoa_n m (by omega) w
    have hsz : (⟨(dec m).toArray⟩ : ByteArray).size ≤ 14 := by
      have := dec_len13 m (by omega); rw [mk_size]; omega
    generalize (⟨(dec m).toArray⟩ : ByteArray) = S at *
    go_enter Tryd.func24, Tryd.ntmps24
    go_wp2_with (go_at_call 24; refine (hc _).mono ?_; rintro e w1 ⟨rfl, m, rfl⟩)
    go_ret
    exact ⟨ret_str HE.out.symm, _, rfl⟩
  · obtain ⟨m, rfl⟩ := Int.eq_ofNat_of_zero_le (show 0 ≤ n by omega)
    have := itoa_n m (by omega) w
    have e : itoaS (m : Int) = ⟨(dec m).toArray⟩ := by
      unfold itoaS
      rw [decide_eq_false (by omega)]; rfl
    rw [e]; exact this

theorem Tryd.eltI : Elt Tryd.prog 47 3 (.int .i64 0) 1 8 := elt_of Tryd.underlying47 (by kernel_rfl) rfl (by decide)
theorem Tryd.eltS : Elt Tryd.prog 48 9 (.string ⟨#[]⟩) 1 16 := elt_of Tryd.underlying48 (by kernel_rfl) rfl (by decide)
theorem index4_0 (a b c d : ByteArray) (w : World) : (Instr.index 43 (.agg #[.string a, .string b, .string c, .string d]) (.int .i64 0)).run Tryd.prog w = .ok (.string a) w := by kernel_rfl
theorem index4_1 (a b c d : ByteArray) (w : World) : (Instr.index 43 (.agg #[.string a, .string b, .string c, .string d]) (.int .i64 1)).run Tryd.prog w = .ok (.string b) w := by kernel_rfl
theorem index4_2 (a b c d : ByteArray) (w : World) : (Instr.index 43 (.agg #[.string a, .string b, .string c, .string d]) (.int .i64 2)).run Tryd.prog w = .ok (.string c) w := by kernel_rfl
theorem index4_3 (a b c d : ByteArray) (w : World) : (Instr.index 43 (.agg #[.string a, .string b, .string c, .string d]) (.int .i64 3)).run Tryd.prog w = .ok (.string d) w := by kernel_rfl
theorem index3_0 (w : World) : (Instr.index 50 (.agg #[.string ⟨#[32]⟩, .string ⟨#[10]⟩, .string ⟨#[32, 9]⟩]) (.int .i64 0)).run Tryd.prog w = .ok (.string ⟨#[32]⟩) w := by kernel_rfl
theorem index3_1 (w : World) : (Instr.index 50 (.agg #[.string ⟨#[32]⟩, .string ⟨#[10]⟩, .string ⟨#[32, 9]⟩]) (.int .i64 1)).run Tryd.prog w = .ok (.string ⟨#[10]⟩) w := by kernel_rfl
theorem index3_2 (w : World) : (Instr.index 50 (.agg #[.string ⟨#[32]⟩, .string ⟨#[10]⟩, .string ⟨#[32, 9]⟩]) (.int .i64 2)).run Tryd.prog w = .ok (.string ⟨#[32, 9]⟩) w := by kernel_rfl
theorem index4 (a b c d : ByteArray) (j : Nat) (i : Int) (hi : i = j) (h : j < 4) (w : World) : (Instr.index 43 (.agg #[.string a, .string b, .string c, .string d]) (.int .i64 i)).run Tryd.prog w = .ok (.string (pick4 a b c d j)) w := by
  subst hi
  have : j = 0 ∨ j = 1 ∨ j = 2 ∨ j = 3 := by omega
  rcases this with rfl | rfl | rfl | rfl
  · exact index4_0 a b c d w
  · exact index4_1 a b c d w
  · exact index4_2 a b c d w
  · exact index4_3 a b c d w
theorem index3 (v : Nat) (w : World) : (Instr.index 50 (.agg #[.string ⟨#[32]⟩, .string ⟨#[10]⟩, .string ⟨#[32, 9]⟩]) (.int .i64 ((v : Int) / 100 % 3))).run Tryd.prog w = .ok (.string (wSep v)) w := by
  unfold wSep
  have hv : (v : Int) / 100 % 3 = ((v / 100 % 3 : Nat) : Int) := by omega
  rw [hv]
  have : v / 100 % 3 = 0 ∨ v / 100 % 3 = 1 ∨ v / 100 % 3 = 2 := by omega
  rcases this with h | h | h <;> rw [h]
  · exact index3_0 w
  · exact index3_1 w
  · exact index3_2 w

/-- A list of numbers that came in. -/
def IntsIn (w : World) (v : Value) (zs : List Int) : Prop := ∃ a cap, v = .slice a zs.length cap ∧ (0 < zs.length → ∃ g off, a = some ⟨g, off, none⟩ ∧ g < w.heap.size ∧ ∀ j (h : j < zs.length), w.cell? ⟨g, off + j, none⟩ = some (.int .i64 zs[j]))
def placed (l : List Int) : List Nat := (l.take 40).map fun z => (z % 1048576).toNat

/-- What the law lays as it goes. -/
structure Laid (w wr : World) (s at_ nums kinds texts : Value) (xs : List Nat) : Prop where
  hst : St w wr
  hs : s = .string (wCat xs)
  hat : wr.ownsRow w.heap.size 3 1 at_ xs.length ((wToks xs 0).map fun t => .int .i64 t.at_)
  hnu : wr.ownsRow w.heap.size 3 1 nums xs.length ((wToks xs 0).map fun t => .int .i64 t.n)
  hki : wr.ownsRow w.heap.size 3 1 kinds xs.length ((wToks xs 0).map fun t => .int .i64 t.kind)
  hte : wr.ownsRow w.heap.size 9 1 texts xs.length ((wToks xs 0).map fun t => .string t.s)
  an : Apart at_ nums
  ak : Apart at_ kinds
  at2 : Apart at_ texts
  nk : Apart nums kinds
  nt : Apart nums texts
  kt : Apart kinds texts

set_option maxRecDepth 100000 in
set_option maxHeartbeats 4000000 in
theorem lexWords_law (V : Value) (zs : List Int) (w : World) (hG : Glob w) (hV : IntsIn w V zs) (hz : ∀ z ∈ zs, -9223372036854775808 ≤ z ∧ z ≤ 9223372036854775807) (hzl : zs.length ≤ 9223372036854775807) :
    Calls Tryd.prog 7 #[V] w fun e w' => e = .returned (.bool true) ∧ St w w' := by
  obtain ⟨a0, cap0, rfl, hcell⟩ := hV
  have haw := fun w1 hS1 => awake13_any w1 hS1
  have HC := Lib.hid hcell
  have HZ := Lib.hid hz
  have HG := Lib.hid hG
  clear hcell hz hG
  go_enter Tryd.func7, Tryd.ntmps7
  go_wp2_with fail
  go_loopw [3, 4, 5, 6, 7, 8] (fun s kinds at_ nums texts i wr => ∃ k : Nat, i = .int .i64 k ∧ k ≤ zs.length ∧ k ≤ 40 ∧ Laid w wr s at_ nums kinds texts ((zs.take k).map fun z => (z % 1048576).toNat)) (fun _ _ _ _ _ i _ => 41 - (intOf i).toNat)
  case atStart => exact ⟨0, rfl, by omega, by omega, St.refl HG.out, rfl, World.ownsRow_nil _ _ _ _, World.ownsRow_nil _ _ _ _, World.ownsRow_nil _ _ _ _, World.ownsRow_nil _ _ _ _, apart_nil, apart_nil, apart_nil, apart_nil, apart_nil, apart_nil⟩
  case round =>
    obtain ⟨k, rfl, hk, hk40, hL⟩ := hrel
    by_cases hlt : k < zs.length
    · by_cases hlt40 : k < 40
      · have hd1 : (k : Int) < (zs.length : Int) := by omega
        have hd2 : (0 : Int) ≤ (k : Int) := by omega
        obtain ⟨g, off, rfl, hg, hc⟩ := HC.out (by omega)
        have c0 : wr.cell? ⟨g, off + k, none⟩ = some (.int .i64 zs[k]) := (hL.hst.1.cell (p := ⟨g, off + k, none⟩) hg).trans (hc k hlt)
        have hz1 := HZ.out zs[k] (List.getElem_mem hlt)
        have HX : Hid ((zs.take (k + 1)).map (fun z => (z % 1048576).toNat) = ((zs.take k).map fun z => (z % 1048576).toNat) ++ [(zs[k] % 1048576).toNat]) := by
          show _ = _
          rw [List.take_succ_eq_append_getElem hlt, List.map_append]; rfl
        have hxl : ((zs.take k).map fun z => (z % 1048576).toNat).length = k := by rw [List.length_map, List.length_take]; omega
        clear hc
        generalize ((zs.take k).map fun z => (z % 1048576).toNat) = xs at *
        obtain ⟨z, hzv⟩ : ∃ z, zs[k] = z := ⟨_, rfl⟩
        rw [hzv] at c0 hz1 HX
        clear hzv
        obtain ⟨hz1, hz2⟩ := hz1
        have hpl := fun w => place_any z 1048576 w (by omega) (by omega) hz1 hz2
        obtain ⟨v, hv⟩ : ∃ v : Nat, z % 1048576 = v := ⟨(z % 1048576).toNat, by omega⟩
        have hvl : v < 1048576 := by omega
        rw [hv] at hpl HX
        rw [Int.toNat_natCast] at HX
        clear hv hz1 hz2
        obtain ⟨hst, rfl, hat, hnu, hki, hte, an, ak, at2, nk, nt, kt⟩ := hL
        have hcs := cat_size xs
        have HW := wW_size v
        have HSp := wSep_size v
        have HT : Hid (∀ o, wToks (xs ++ [v]) o = wToks xs o ++ [wTk v (o + (wCat xs).size)]) := toks_snoc v xs
        have HCa : Hid (wCat (xs ++ [v]) = (wCat xs ++ wW v) ++ wSep v) := cat_snoc v xs
        go_wp2_with fail
        refine (hpl _).mono ?_; rintro e w1 ⟨rfl, rfl⟩
        have lb := hst.1.size
        have hn40 : xs.length < 40 := by omega
        have i3 := index3 v
        have hv4 : v % 4 = 0 ∨ v % 4 = 1 ∨ v % 4 = 2 ∨ v % 4 = 3 := by omega
        rcases hv4 with hv4 | hv4 | hv4 | hv4
        · have i1 := index4 ⟨#[97]⟩ ⟨#[83, 101, 108, 101, 99, 116]⟩ ⟨#[95, 57, 120]⟩ ⟨#[84, 84]⟩ (v / 4 % 4) ((v : Int) / 4 % 4) (by omega) (by omega)
          have i2 := index4 ⟨#[97]⟩ ⟨#[115, 101, 108, 101, 99, 116]⟩ ⟨#[95, 57, 120]⟩ ⟨#[116, 116]⟩ (v / 4 % 4) ((v : Int) / 4 % 4) (by omega) (by omega)
          have HV1 : Hid (wW v = pick4 ⟨#[97]⟩ ⟨#[83, 101, 108, 101, 99, 116]⟩ ⟨#[95, 57, 120]⟩ ⟨#[84, 84]⟩ (v / 4 % 4)) := by show _ = _; unfold wW; rw [if_pos hv4]
          have HV2 : Hid (wT v = pick4 ⟨#[97]⟩ ⟨#[115, 101, 108, 101, 99, 116]⟩ ⟨#[95, 57, 120]⟩ ⟨#[116, 116]⟩ (v / 4 % 4)) := by show _ = _; unfold wT; rw [if_pos hv4]
          have HN : Hid (wNum v = 0) := by show _ = _; unfold wNum; rw [if_neg (by omega)]
          rw [← HV1.out] at i1
          rw [← HV2.out] at i2
          have q1 : ((1 : Int) + (v : Int) % 4 == 1) = true := beq_iff_eq.2 (by omega)
          go_wp2_with (first
            | (at_builtin; refine app1 Tryd.eltI rfl _ _ rfl w.heap.size _ _ _ rfl (hat.alloc _) _ _ [.int .i64 ((wCat xs).size : Nat)] rfl rfl (cells_last _ _ _) (by intro u hu; rw [List.mem_singleton.1 hu]; rfl) (by omega) (by simp; omega) ?_; intro a2 c2 w2 h2 hg hn; have hb2 : Below w.heap.size w w2 := below_app (hst.1.alloc hst.1.size _) (by simp; omega) hg (fun g hx => (hat.lt g hx).1); have kan := an.near hn (hnu.alloc _); have kak := ak.near hn (hki.alloc _); have kat2 := at2.near hn (hte.alloc _); have mhnu := an.keep (hnu.alloc _) hg; have mhki := ak.keep (hki.alloc _) hg; have mhte := at2.keep (hte.alloc _) hg; replace hst : St w w2 := ⟨hb2, HG.out.below hb2⟩; replace an := kan; replace ak := kak; replace at2 := kat2; replace hnu := mhnu; replace hki := mhki; replace hte := mhte; replace hat := h2; clear hg hn hb2 h2; replace lb := hst.1.size)
            | (go_at_call 24; refine (itoa_s (wN v) (by unfold wN; omega) (by unfold wN; omega) _).mono ?_; rintro e w6 ⟨rfl, m, rfl⟩; replace hst := hst.step (below_drewN (Below.refl _ _) m); replace hat := ownsRow_drewN hat m; replace hnu := ownsRow_drewN hnu m; replace hki := ownsRow_drewN hki m; replace hte := ownsRow_drewN hte m)
            | (at_builtin; refine app1 Tryd.eltI rfl _ _ rfl w.heap.size _ _ _ rfl (hki.alloc _) _ _ [.int .i64 (1 + (v : Int) % 4)] rfl rfl (cells_last _ _ _) (by intro u hu; rw [List.mem_singleton.1 hu]; rfl) (by omega) (by simp; omega) ?_; intro a3 c3 w3 h3 hg hn; have hb3 : Below w.heap.size w w3 := below_app (hst.1.alloc hst.1.size _) (by simp; omega) hg (fun g hx => (hki.lt g hx).1); have kak := (ak.symm.near hn (hat.alloc _)).symm; have knk := (nk.symm.near hn (hnu.alloc _)).symm; have kkt := kt.near hn (hte.alloc _); have mhat := ak.symm.keep (hat.alloc _) hg; have mhnu := nk.symm.keep (hnu.alloc _) hg; have mhte := kt.keep (hte.alloc _) hg; replace hst : St w w3 := ⟨hb3, HG.out.below hb3⟩; replace ak := kak; replace nk := knk; replace kt := kkt; replace hat := mhat; replace hnu := mhnu; replace hte := mhte; replace hki := h3; clear hg hn hb3 h3; replace lb := hst.1.size)
            | (at_builtin; refine app1 Tryd.eltS rfl _ _ rfl w.heap.size _ _ _ rfl (hte.alloc _) _ _ [.string (wT v)] rfl rfl (cells_last _ _ _) (by intro u hu; rw [List.mem_singleton.1 hu]; rfl) (by omega) (by simp; omega) ?_; intro a4 c4 w4 h4 hg hn; have hb4 : Below w.heap.size w w4 := below_app (hst.1.alloc hst.1.size _) (by simp; omega) hg (fun g hx => (hte.lt g hx).1); have kat2 := (at2.symm.near hn (hat.alloc _)).symm; have knt := (nt.symm.near hn (hnu.alloc _)).symm; have kkt := (kt.symm.near hn (hki.alloc _)).symm; have mhat := at2.symm.keep (hat.alloc _) hg; have mhnu := nt.symm.keep (hnu.alloc _) hg; have mhki := kt.symm.keep (hki.alloc _) hg; replace hst : St w w4 := ⟨hb4, HG.out.below hb4⟩; replace at2 := kat2; replace nt := knt; replace kt := kkt; replace hat := mhat; replace hnu := mhnu; replace hki := mhki; replace hte := h4; clear hg hn hb4 h4; replace lb := hst.1.size)
            | (at_builtin; refine app1 Tryd.eltI rfl _ _ rfl w.heap.size _ _ _ rfl (hnu.alloc _) _ _ [.int .i64 0] rfl rfl (cells_last _ _ _) (by intro u hu; rw [List.mem_singleton.1 hu]; rfl) (by omega) (by simp; omega) ?_; intro a5 c5 w5 h5 hg hn; have hb5 : Below w.heap.size w w5 := below_app (hst.1.alloc hst.1.size _) (by simp; omega) hg (fun g hx => (hnu.lt g hx).1); have kan := (an.symm.near hn (hat.alloc _)).symm; have knk := nk.near hn (hki.alloc _); have knt := nt.near hn (hte.alloc _); have mhat := an.symm.keep (hat.alloc _) hg; have mhki := nk.keep (hki.alloc _) hg; have mhte := nt.keep (hte.alloc _) hg; replace hst : St w w5 := ⟨hb5, HG.out.below hb5⟩; replace an := kan; replace nk := knk; replace nt := knt; replace hat := mhat; replace hki := mhki; replace hte := mhte; replace hnu := h5; clear hg hn hb5 h5; replace lb := hst.1.size))
          go_roundw
          case rel =>
            rw [hxl] at hat hnu hki hte an ak at2 nk nt kt
            have hl1 : (xs ++ [v]).length = k + 1 := by rw [List.length_append, hxl]; rfl
            have hTT : wToks (xs ++ [v]) 0 = wToks xs 0 ++ [wTk v (wCat xs).size] := by rw [HT.out 0, Nat.zero_add]
            have hkd : (1 : Int) + ((v % 4 : Nat) : Int) = 1 + (v : Int) % 4 := by omega
            refine ⟨k + 1, by go_num, by omega, by omega, ?_⟩
            rw [HX.out]
            refine ⟨hst, by rw [HCa.out], ?_, ?_, ?_, ?_, an, ak, at2, nk, nt, kt⟩
            · rw [hTT, hl1, List.map_append]; exact hat
            · rw [hTT, hl1, List.map_append]; show w5.ownsRow w.heap.size 3 1 (.slice a5 (k + 1) c5) _ (_ ++ [Value.int .i64 (wNum v)]); rw [HN.out]; exact hnu
            · rw [hTT, hl1, List.map_append]; show w5.ownsRow w.heap.size 3 1 (.slice a3 (k + 1) c3) _ (_ ++ [Value.int .i64 (1 + ((v % 4 : Nat) : Int))]); rw [hkd]; exact hki
            · rw [hTT, hl1, List.map_append]; exact hte
          case measure => simp [intOf]; omega
        · have HV1 : Hid (wW v = itoaS (wN v)) := by show _ = _; unfold wW; rw [if_neg (by omega), if_pos hv4]
          have HV2 : Hid (wT v = ⟨#[]⟩) := by show _ = _; unfold wT; rw [if_neg (by omega), if_pos hv4]
          have HN : Hid (wNum v = wN v) := by show _ = _; unfold wNum; rw [if_pos hv4]
          have q1 : ((1 : Int) + (v : Int) % 4 == 1) = false := beq_eq_false_iff_ne.2 (by omega)
          have q2 : ((1 : Int) + (v : Int) % 4 == 2) = true := beq_iff_eq.2 (by omega)
          have hit := fun w => itoa_s (wN v) (by unfold wN; omega) (by unfold wN; omega) w
          rw [← HV1.out] at hit
          have hwn : (v : Int) / 4 % 100 - 50 = wN v := by unfold wN; omega
          go_wp2_with (first
            | (at_builtin; refine app1 Tryd.eltI rfl _ _ rfl w.heap.size _ _ _ rfl (hat.alloc _) _ _ [.int .i64 ((wCat xs).size : Nat)] rfl rfl (cells_last _ _ _) (by intro u hu; rw [List.mem_singleton.1 hu]; rfl) (by omega) (by simp; omega) ?_; intro a2 c2 w2 h2 hg hn; have hb2 : Below w.heap.size w w2 := below_app (hst.1.alloc hst.1.size _) (by simp; omega) hg (fun g hx => (hat.lt g hx).1); have kan := an.near hn (hnu.alloc _); have kak := ak.near hn (hki.alloc _); have kat2 := at2.near hn (hte.alloc _); have mhnu := an.keep (hnu.alloc _) hg; have mhki := ak.keep (hki.alloc _) hg; have mhte := at2.keep (hte.alloc _) hg; replace hst : St w w2 := ⟨hb2, HG.out.below hb2⟩; replace an := kan; replace ak := kak; replace at2 := kat2; replace hnu := mhnu; replace hki := mhki; replace hte := mhte; replace hat := h2; clear hg hn hb2 h2; replace lb := hst.1.size)
            | (go_at_call 24; refine (hit _).mono ?_; rintro e w6 ⟨rfl, m, rfl⟩; replace hst := hst.step (below_drewN (Below.refl _ _) m); replace hat := ownsRow_drewN hat m; replace hnu := ownsRow_drewN hnu m; replace hki := ownsRow_drewN hki m; replace hte := ownsRow_drewN hte m)
            | (at_builtin; refine app1 Tryd.eltI rfl _ _ rfl w.heap.size _ _ _ rfl (hki.alloc _) _ _ [.int .i64 (1 + (v : Int) % 4)] rfl rfl (cells_last _ _ _) (by intro u hu; rw [List.mem_singleton.1 hu]; rfl) (by omega) (by simp; omega) ?_; intro a3 c3 w3 h3 hg hn; have hb3 : Below w.heap.size w w3 := below_app (hst.1.alloc hst.1.size _) (by simp; omega) hg (fun g hx => (hki.lt g hx).1); have kak := (ak.symm.near hn (hat.alloc _)).symm; have knk := (nk.symm.near hn (hnu.alloc _)).symm; have kkt := kt.near hn (hte.alloc _); have mhat := ak.symm.keep (hat.alloc _) hg; have mhnu := nk.symm.keep (hnu.alloc _) hg; have mhte := kt.keep (hte.alloc _) hg; replace hst : St w w3 := ⟨hb3, HG.out.below hb3⟩; replace ak := kak; replace nk := knk; replace kt := kkt; replace hat := mhat; replace hnu := mhnu; replace hte := mhte; replace hki := h3; clear hg hn hb3 h3; replace lb := hst.1.size)
            | (at_builtin; refine app1 Tryd.eltS rfl _ _ rfl w.heap.size _ _ _ rfl (hte.alloc _) _ _ [.string ⟨#[]⟩] rfl rfl (cells_last _ _ _) (by intro u hu; rw [List.mem_singleton.1 hu]; rfl) (by omega) (by simp; omega) ?_; intro a4 c4 w4 h4 hg hn; have hb4 : Below w.heap.size w w4 := below_app (hst.1.alloc hst.1.size _) (by simp; omega) hg (fun g hx => (hte.lt g hx).1); have kat2 := (at2.symm.near hn (hat.alloc _)).symm; have knt := (nt.symm.near hn (hnu.alloc _)).symm; have kkt := (kt.symm.near hn (hki.alloc _)).symm; have mhat := at2.symm.keep (hat.alloc _) hg; have mhnu := nt.symm.keep (hnu.alloc _) hg; have mhki := kt.symm.keep (hki.alloc _) hg; replace hst : St w w4 := ⟨hb4, HG.out.below hb4⟩; replace at2 := kat2; replace nt := knt; replace kt := kkt; replace hat := mhat; replace hnu := mhnu; replace hki := mhki; replace hte := h4; clear hg hn hb4 h4; replace lb := hst.1.size)
            | (at_builtin; refine app1 Tryd.eltI rfl _ _ rfl w.heap.size _ _ _ rfl (hnu.alloc _) _ _ [.int .i64 (wN v)] rfl rfl (cells_last _ _ _) (by intro u hu; rw [List.mem_singleton.1 hu]; rfl) (by omega) (by simp; omega) ?_; intro a5 c5 w5 h5 hg hn; have hb5 : Below w.heap.size w w5 := below_app (hst.1.alloc hst.1.size _) (by simp; omega) hg (fun g hx => (hnu.lt g hx).1); have kan := (an.symm.near hn (hat.alloc _)).symm; have knk := nk.near hn (hki.alloc _); have knt := nt.near hn (hte.alloc _); have mhat := an.symm.keep (hat.alloc _) hg; have mhki := nk.keep (hki.alloc _) hg; have mhte := nt.keep (hte.alloc _) hg; replace hst : St w w5 := ⟨hb5, HG.out.below hb5⟩; replace an := kan; replace nk := knk; replace nt := knt; replace hat := mhat; replace hki := mhki; replace hte := mhte; replace hnu := h5; clear hg hn hb5 h5; replace lb := hst.1.size))
          go_roundw
          case rel =>
            rw [hxl] at hat hnu hki hte an ak at2 nk nt kt
            have hl1 : (xs ++ [v]).length = k + 1 := by rw [List.length_append, hxl]; rfl
            have hTT : wToks (xs ++ [v]) 0 = wToks xs 0 ++ [wTk v (wCat xs).size] := by rw [HT.out 0, Nat.zero_add]
            have hkd : (1 : Int) + ((v % 4 : Nat) : Int) = 1 + (v : Int) % 4 := by omega
            refine ⟨k + 1, by go_num, by omega, by omega, ?_⟩
            rw [HX.out]
            refine ⟨hst, by rw [HCa.out], ?_, ?_, ?_, ?_, an, ak, at2, nk, nt, kt⟩
            · rw [hTT, hl1, List.map_append]; exact hat
            · rw [hTT, hl1, List.map_append]; show w5.ownsRow w.heap.size 3 1 (.slice a5 (k + 1) c5) _ (_ ++ [Value.int .i64 (wNum v)]); rw [HN.out]; exact hnu
            · rw [hTT, hl1, List.map_append]; show w5.ownsRow w.heap.size 3 1 (.slice a3 (k + 1) c3) _ (_ ++ [Value.int .i64 (1 + ((v % 4 : Nat) : Int))]); rw [hkd]; exact hki
            · rw [hTT, hl1, List.map_append]; show w5.ownsRow w.heap.size 9 1 (.slice a4 (k + 1) c4) _ (_ ++ [Value.string (wT v)]); rw [HV2.out]; exact hte
          case measure => simp [intOf]; omega
        · have i1 := index4 ⟨#[39, 39]⟩ ⟨#[39, 97, 39, 39, 98, 39]⟩ ⟨#[39, 45, 45, 39]⟩ ⟨#[39, 65, 32, 98, 39]⟩ (v / 4 % 4) ((v : Int) / 4 % 4) (by omega) (by omega)
          have i2 := index4 ⟨#[]⟩ ⟨#[97, 39, 98]⟩ ⟨#[45, 45]⟩ ⟨#[65, 32, 98]⟩ (v / 4 % 4) ((v : Int) / 4 % 4) (by omega) (by omega)
          have HV1 : Hid (wW v = pick4 ⟨#[39, 39]⟩ ⟨#[39, 97, 39, 39, 98, 39]⟩ ⟨#[39, 45, 45, 39]⟩ ⟨#[39, 65, 32, 98, 39]⟩ (v / 4 % 4)) := by show _ = _; unfold wW; rw [if_neg (by omega), if_neg (by omega), if_pos hv4]
          have HV2 : Hid (wT v = pick4 ⟨#[]⟩ ⟨#[97, 39, 98]⟩ ⟨#[45, 45]⟩ ⟨#[65, 32, 98]⟩ (v / 4 % 4)) := by show _ = _; unfold wT; rw [if_neg (by omega), if_neg (by omega), if_pos hv4]
          have HN : Hid (wNum v = 0) := by show _ = _; unfold wNum; rw [if_neg (by omega)]
          rw [← HV1.out] at i1
          rw [← HV2.out] at i2
          have q1 : ((1 : Int) + (v : Int) % 4 == 1) = false := beq_eq_false_iff_ne.2 (by omega)
          have q2 : ((1 : Int) + (v : Int) % 4 == 2) = false := beq_eq_false_iff_ne.2 (by omega)
          have q3 : ((1 : Int) + (v : Int) % 4 == 3) = true := beq_iff_eq.2 (by omega)
          go_wp2_with (first
            | (at_builtin; refine app1 Tryd.eltI rfl _ _ rfl w.heap.size _ _ _ rfl (hat.alloc _) _ _ [.int .i64 ((wCat xs).size : Nat)] rfl rfl (cells_last _ _ _) (by intro u hu; rw [List.mem_singleton.1 hu]; rfl) (by omega) (by simp; omega) ?_; intro a2 c2 w2 h2 hg hn; have hb2 : Below w.heap.size w w2 := below_app (hst.1.alloc hst.1.size _) (by simp; omega) hg (fun g hx => (hat.lt g hx).1); have kan := an.near hn (hnu.alloc _); have kak := ak.near hn (hki.alloc _); have kat2 := at2.near hn (hte.alloc _); have mhnu := an.keep (hnu.alloc _) hg; have mhki := ak.keep (hki.alloc _) hg; have mhte := at2.keep (hte.alloc _) hg; replace hst : St w w2 := ⟨hb2, HG.out.below hb2⟩; replace an := kan; replace ak := kak; replace at2 := kat2; replace hnu := mhnu; replace hki := mhki; replace hte := mhte; replace hat := h2; clear hg hn hb2 h2; replace lb := hst.1.size)
            | (go_at_call 24; refine (itoa_s (wN v) (by unfold wN; omega) (by unfold wN; omega) _).mono ?_; rintro e w6 ⟨rfl, m, rfl⟩; replace hst := hst.step (below_drewN (Below.refl _ _) m); replace hat := ownsRow_drewN hat m; replace hnu := ownsRow_drewN hnu m; replace hki := ownsRow_drewN hki m; replace hte := ownsRow_drewN hte m)
            | (at_builtin; refine app1 Tryd.eltI rfl _ _ rfl w.heap.size _ _ _ rfl (hki.alloc _) _ _ [.int .i64 (1 + (v : Int) % 4)] rfl rfl (cells_last _ _ _) (by intro u hu; rw [List.mem_singleton.1 hu]; rfl) (by omega) (by simp; omega) ?_; intro a3 c3 w3 h3 hg hn; have hb3 : Below w.heap.size w w3 := below_app (hst.1.alloc hst.1.size _) (by simp; omega) hg (fun g hx => (hki.lt g hx).1); have kak := (ak.symm.near hn (hat.alloc _)).symm; have knk := (nk.symm.near hn (hnu.alloc _)).symm; have kkt := kt.near hn (hte.alloc _); have mhat := ak.symm.keep (hat.alloc _) hg; have mhnu := nk.symm.keep (hnu.alloc _) hg; have mhte := kt.keep (hte.alloc _) hg; replace hst : St w w3 := ⟨hb3, HG.out.below hb3⟩; replace ak := kak; replace nk := knk; replace kt := kkt; replace hat := mhat; replace hnu := mhnu; replace hte := mhte; replace hki := h3; clear hg hn hb3 h3; replace lb := hst.1.size)
            | (at_builtin; refine app1 Tryd.eltS rfl _ _ rfl w.heap.size _ _ _ rfl (hte.alloc _) _ _ [.string (wT v)] rfl rfl (cells_last _ _ _) (by intro u hu; rw [List.mem_singleton.1 hu]; rfl) (by omega) (by simp; omega) ?_; intro a4 c4 w4 h4 hg hn; have hb4 : Below w.heap.size w w4 := below_app (hst.1.alloc hst.1.size _) (by simp; omega) hg (fun g hx => (hte.lt g hx).1); have kat2 := (at2.symm.near hn (hat.alloc _)).symm; have knt := (nt.symm.near hn (hnu.alloc _)).symm; have kkt := (kt.symm.near hn (hki.alloc _)).symm; have mhat := at2.symm.keep (hat.alloc _) hg; have mhnu := nt.symm.keep (hnu.alloc _) hg; have mhki := kt.symm.keep (hki.alloc _) hg; replace hst : St w w4 := ⟨hb4, HG.out.below hb4⟩; replace at2 := kat2; replace nt := knt; replace kt := kkt; replace hat := mhat; replace hnu := mhnu; replace hki := mhki; replace hte := h4; clear hg hn hb4 h4; replace lb := hst.1.size)
            | (at_builtin; refine app1 Tryd.eltI rfl _ _ rfl w.heap.size _ _ _ rfl (hnu.alloc _) _ _ [.int .i64 0] rfl rfl (cells_last _ _ _) (by intro u hu; rw [List.mem_singleton.1 hu]; rfl) (by omega) (by simp; omega) ?_; intro a5 c5 w5 h5 hg hn; have hb5 : Below w.heap.size w w5 := below_app (hst.1.alloc hst.1.size _) (by simp; omega) hg (fun g hx => (hnu.lt g hx).1); have kan := (an.symm.near hn (hat.alloc _)).symm; have knk := nk.near hn (hki.alloc _); have knt := nt.near hn (hte.alloc _); have mhat := an.symm.keep (hat.alloc _) hg; have mhki := nk.keep (hki.alloc _) hg; have mhte := nt.keep (hte.alloc _) hg; replace hst : St w w5 := ⟨hb5, HG.out.below hb5⟩; replace an := kan; replace nk := knk; replace nt := knt; replace hat := mhat; replace hki := mhki; replace hte := mhte; replace hnu := h5; clear hg hn hb5 h5; replace lb := hst.1.size))
          go_roundw
          case rel =>
            rw [hxl] at hat hnu hki hte an ak at2 nk nt kt
            have hl1 : (xs ++ [v]).length = k + 1 := by rw [List.length_append, hxl]; rfl
            have hTT : wToks (xs ++ [v]) 0 = wToks xs 0 ++ [wTk v (wCat xs).size] := by rw [HT.out 0, Nat.zero_add]
            have hkd : (1 : Int) + ((v % 4 : Nat) : Int) = 1 + (v : Int) % 4 := by omega
            refine ⟨k + 1, by go_num, by omega, by omega, ?_⟩
            rw [HX.out]
            refine ⟨hst, by rw [HCa.out], ?_, ?_, ?_, ?_, an, ak, at2, nk, nt, kt⟩
            · rw [hTT, hl1, List.map_append]; exact hat
            · rw [hTT, hl1, List.map_append]; show w5.ownsRow w.heap.size 3 1 (.slice a5 (k + 1) c5) _ (_ ++ [Value.int .i64 (wNum v)]); rw [HN.out]; exact hnu
            · rw [hTT, hl1, List.map_append]; show w5.ownsRow w.heap.size 3 1 (.slice a3 (k + 1) c3) _ (_ ++ [Value.int .i64 (1 + ((v % 4 : Nat) : Int))]); rw [hkd]; exact hki
            · rw [hTT, hl1, List.map_append]; exact hte
          case measure => simp [intOf]; omega
        · have HV1 : Hid (wW v = (⟨#[40, 41, 44, 59, 61, 42]⟩ : ByteArray).extract (v / 4 % 6) (v / 4 % 6 + 1)) := by show _ = _; unfold wW; rw [if_neg (by omega), if_neg (by omega), if_neg (by omega)]
          have HV2 : Hid (wT v = (⟨#[40, 41, 44, 59, 61, 42]⟩ : ByteArray).extract (v / 4 % 6) (v / 4 % 6 + 1)) := by show _ = _; unfold wT; rw [if_neg (by omega), if_neg (by omega), if_neg (by omega)]
          have HN : Hid (wNum v = 0) := by show _ = _; unfold wNum; rw [if_neg (by omega)]
          have q1 : ((1 : Int) + (v : Int) % 4 == 1) = false := beq_eq_false_iff_ne.2 (by omega)
          have q2 : ((1 : Int) + (v : Int) % 4 == 2) = false := beq_eq_false_iff_ne.2 (by omega)
          have q3 : ((1 : Int) + (v : Int) % 4 == 3) = false := beq_eq_false_iff_ne.2 (by omega)
          have hsz1 : ((⟨#[40, 41, 44, 59, 61, 42]⟩ : ByteArray).extract (v / 4 % 6) (v / 4 % 6 + 1)).size ≤ 14 := by rw [← HV1.out]; exact HW
          go_wp2_with (first
            | (at_builtin; refine app1 Tryd.eltI rfl _ _ rfl w.heap.size _ _ _ rfl (hat.alloc _) _ _ [.int .i64 ((wCat xs).size : Nat)] rfl rfl (cells_last _ _ _) (by intro u hu; rw [List.mem_singleton.1 hu]; rfl) (by omega) (by simp; omega) ?_; intro a2 c2 w2 h2 hg hn; have hb2 : Below w.heap.size w w2 := below_app (hst.1.alloc hst.1.size _) (by simp; omega) hg (fun g hx => (hat.lt g hx).1); have kan := an.near hn (hnu.alloc _); have kak := ak.near hn (hki.alloc _); have kat2 := at2.near hn (hte.alloc _); have mhnu := an.keep (hnu.alloc _) hg; have mhki := ak.keep (hki.alloc _) hg; have mhte := at2.keep (hte.alloc _) hg; replace hst : St w w2 := ⟨hb2, HG.out.below hb2⟩; replace an := kan; replace ak := kak; replace at2 := kat2; replace hnu := mhnu; replace hki := mhki; replace hte := mhte; replace hat := h2; clear hg hn hb2 h2; replace lb := hst.1.size)
            | (go_at_call 24; refine (itoa_s (wN v) (by unfold wN; omega) (by unfold wN; omega) _).mono ?_; rintro e w6 ⟨rfl, m, rfl⟩; replace hst := hst.step (below_drewN (Below.refl _ _) m); replace hat := ownsRow_drewN hat m; replace hnu := ownsRow_drewN hnu m; replace hki := ownsRow_drewN hki m; replace hte := ownsRow_drewN hte m)
            | (at_builtin; refine app1 Tryd.eltI rfl _ _ rfl w.heap.size _ _ _ rfl (hki.alloc _) _ _ [.int .i64 (1 + (v : Int) % 4)] rfl rfl (cells_last _ _ _) (by intro u hu; rw [List.mem_singleton.1 hu]; rfl) (by omega) (by simp; omega) ?_; intro a3 c3 w3 h3 hg hn; have hb3 : Below w.heap.size w w3 := below_app (hst.1.alloc hst.1.size _) (by simp; omega) hg (fun g hx => (hki.lt g hx).1); have kak := (ak.symm.near hn (hat.alloc _)).symm; have knk := (nk.symm.near hn (hnu.alloc _)).symm; have kkt := kt.near hn (hte.alloc _); have mhat := ak.symm.keep (hat.alloc _) hg; have mhnu := nk.symm.keep (hnu.alloc _) hg; have mhte := kt.keep (hte.alloc _) hg; replace hst : St w w3 := ⟨hb3, HG.out.below hb3⟩; replace ak := kak; replace nk := knk; replace kt := kkt; replace hat := mhat; replace hnu := mhnu; replace hte := mhte; replace hki := h3; clear hg hn hb3 h3; replace lb := hst.1.size)
            | (at_builtin; refine app1 Tryd.eltS rfl _ _ rfl w.heap.size _ _ _ rfl (hte.alloc _) _ _ [.string ((⟨#[40, 41, 44, 59, 61, 42]⟩ : ByteArray).extract (v / 4 % 6) (v / 4 % 6 + 1))] rfl rfl (cells_last _ _ _) (by intro u hu; rw [List.mem_singleton.1 hu]; rfl) (by omega) (by simp; omega) ?_; intro a4 c4 w4 h4 hg hn; have hb4 : Below w.heap.size w w4 := below_app (hst.1.alloc hst.1.size _) (by simp; omega) hg (fun g hx => (hte.lt g hx).1); have kat2 := (at2.symm.near hn (hat.alloc _)).symm; have knt := (nt.symm.near hn (hnu.alloc _)).symm; have kkt := (kt.symm.near hn (hki.alloc _)).symm; have mhat := at2.symm.keep (hat.alloc _) hg; have mhnu := nt.symm.keep (hnu.alloc _) hg; have mhki := kt.symm.keep (hki.alloc _) hg; replace hst : St w w4 := ⟨hb4, HG.out.below hb4⟩; replace at2 := kat2; replace nt := knt; replace kt := kkt; replace hat := mhat; replace hnu := mhnu; replace hki := mhki; replace hte := h4; clear hg hn hb4 h4; replace lb := hst.1.size)
            | (at_builtin; refine app1 Tryd.eltI rfl _ _ rfl w.heap.size _ _ _ rfl (hnu.alloc _) _ _ [.int .i64 0] rfl rfl (cells_last _ _ _) (by intro u hu; rw [List.mem_singleton.1 hu]; rfl) (by omega) (by simp; omega) ?_; intro a5 c5 w5 h5 hg hn; have hb5 : Below w.heap.size w w5 := below_app (hst.1.alloc hst.1.size _) (by simp; omega) hg (fun g hx => (hnu.lt g hx).1); have kan := (an.symm.near hn (hat.alloc _)).symm; have knk := nk.near hn (hki.alloc _); have knt := nt.near hn (hte.alloc _); have mhat := an.symm.keep (hat.alloc _) hg; have mhki := nk.keep (hki.alloc _) hg; have mhte := nt.keep (hte.alloc _) hg; replace hst : St w w5 := ⟨hb5, HG.out.below hb5⟩; replace an := kan; replace nk := knk; replace nt := knt; replace hat := mhat; replace hki := mhki; replace hte := mhte; replace hnu := h5; clear hg hn hb5 h5; replace lb := hst.1.size))
          go_roundw
          case rel =>
            rw [hxl] at hat hnu hki hte an ak at2 nk nt kt
            have hl1 : (xs ++ [v]).length = k + 1 := by rw [List.length_append, hxl]; rfl
            have hTT : wToks (xs ++ [v]) 0 = wToks xs 0 ++ [wTk v (wCat xs).size] := by rw [HT.out 0, Nat.zero_add]
            have hkd : (1 : Int) + ((v % 4 : Nat) : Int) = 1 + (v : Int) % 4 := by omega
            refine ⟨k + 1, by go_num, by omega, by omega, ?_⟩
            rw [HX.out]
            refine ⟨hst, by rw [HCa.out, HV1.out], ?_, ?_, ?_, ?_, an, ak, at2, nk, nt, kt⟩
            · rw [hTT, hl1, List.map_append]; exact hat
            · rw [hTT, hl1, List.map_append]; show w5.ownsRow w.heap.size 3 1 (.slice a5 (k + 1) c5) _ (_ ++ [Value.int .i64 (wNum v)]); rw [HN.out]; exact hnu
            · rw [hTT, hl1, List.map_append]; show w5.ownsRow w.heap.size 3 1 (.slice a3 (k + 1) c3) _ (_ ++ [Value.int .i64 (1 + ((v % 4 : Nat) : Int))]); rw [hkd]; exact hki
            · rw [hTT, hl1, List.map_append]; show w5.ownsRow w.heap.size 9 1 (.slice a4 (k + 1) c4) _ (_ ++ [Value.string (wT v)]); rw [HV2.out]; exact hte
          case measure => simp [intOf]; omega
      · have hk2 : k = 40 := by omega
        have hxl : ((zs.take k).map fun z => (z % 1048576).toNat).length = k := by rw [List.length_map, List.length_take]; omega
        generalize ((zs.take k).map fun z => (z % 1048576).toNat) = xs at *
        obtain ⟨hst, rfl, hat, hnu, hki, hte, _, _, _, _, _, _⟩ := hL
        have hcs := cat_size xs
        have hlx := (cat_lx xs).lexL (by omega)
        have hcl := fun w1 hg => lexall_any (wCat xs) w1 hg (by omega)
        rw [hlx] at hcl
        have htl : (wToks xs 0).length = k := by rw [toks_len]; exact hxl
        clear hlx
        obtain ⟨aa, ca, rfl, ra⟩ := row_read hat
        obtain ⟨an, cn, rfl, rn⟩ := row_read hnu
        obtain ⟨ak, ck, rfl, rk⟩ := row_read hki
        obtain ⟨at2, ct, rfl, rt⟩ := row_read hte
        rw [hxl] at ra rn rk rt
        clear hat hnu hki hte
        obtain ⟨ts, hts⟩ : ∃ ts, wToks xs 0 = ts := ⟨_, rfl⟩
        rw [hts] at ra rn rk rt hcl htl
        obtain ⟨S, hS⟩ : ∃ S, wCat xs = S := ⟨_, rfl⟩
        rw [hS] at hcl hcs ⊢
        rw [hxl]
        clear hS hts
        have Ra := Lib.hid ra
        have Rn := Lib.hid rn
        have Rk := Lib.hid rk
        have Rt := Lib.hid rt
        clear ra rn rk rt
        go_wp2_with fail
        refine (hcl _ hst.2).mono ?_; rintro e w1 ⟨⟨v, rfl, hown⟩, hb⟩
        obtain ⟨al, cl, rfl, rl⟩ := row_read hown
        have Rl := Lib.hid rl
        have HB := Lib.hid hb
        replace hst := hst.step hb
        clear hcl hown rl hb
        rw [show (ts, 0, 0).1.length = k from htl] at Rl ⊢
        go_wp2_with fail
        go_loopw [17] (fun i wr => ∃ j : Nat, i = .int .i64 j ∧ j ≤ k ∧ Hid (∀ p, wr.cell? p = w1.cell? p) ∧ St w wr) (fun i _ => k - (intOf i).toNat)
        case atStart => exact ⟨0, rfl, by omega, fun _ => rfl, hst⟩
        case round =>
          clear hst
          obtain ⟨j, rfl, hj, HW, hst⟩ := hrel
          by_cases hlt : j < k
          · have q5 : (j : Int) < (k : Int) := by omega
            have q6 : (0 : Int) ≤ (j : Int) := by omega
            have hjt : j < ts.length := by omega
            obtain ⟨g0, rfl, _, _, h0⟩ := Rl.out (by omega)
            obtain ⟨g1, rfl, _, l1, h1⟩ := Ra.out (by omega)
            obtain ⟨g2, rfl, _, l2, h2⟩ := Rn.out (by omega)
            obtain ⟨g3, rfl, _, l3, h3⟩ := Rk.out (by omega)
            obtain ⟨g4, rfl, _, l4, h4⟩ := Rt.out (by omega)
            have c0 : wr.cell? ⟨g0, j * 4, none⟩ = some (.int .i64 ts[j].kind) := (HW.out _).trans (h0 _ _ (by have := flatT_at ts j 0 hjt (by omega); rw [Nat.add_zero] at this; rw [this]; rfl))
            have c1 : wr.cell? ⟨g0, j * 4 + 1, none⟩ = some (.string ts[j].s) := (HW.out _).trans (h0 _ _ (by rw [flatT_at ts j 1 hjt (by omega)]; rfl))
            have c2 : wr.cell? ⟨g0, j * 4 + 2, none⟩ = some (.int .i64 ts[j].n) := (HW.out _).trans (h0 _ _ (by rw [flatT_at ts j 2 hjt (by omega)]; rfl))
            have c3 : wr.cell? ⟨g0, j * 4 + 3, none⟩ = some (.int .i64 ts[j].at_) := (HW.out _).trans (h0 _ _ (by rw [flatT_at ts j 3 hjt (by omega)]; rfl))
            have d1 : wr.cell? ⟨g1, j, none⟩ = some (.int .i64 ts[j].at_) := (HW.out _).trans ((HB.out.cell (p := ⟨g1, j, none⟩) l1).trans (h1 _ _ (by rw [List.getElem?_map, List.getElem?_eq_getElem hjt]; rfl)))
            have d2 : wr.cell? ⟨g2, j, none⟩ = some (.int .i64 ts[j].n) := (HW.out _).trans ((HB.out.cell (p := ⟨g2, j, none⟩) l2).trans (h2 _ _ (by rw [List.getElem?_map, List.getElem?_eq_getElem hjt]; rfl)))
            have d3 : wr.cell? ⟨g3, j, none⟩ = some (.int .i64 ts[j].kind) := (HW.out _).trans ((HB.out.cell (p := ⟨g3, j, none⟩) l3).trans (h3 _ _ (by rw [List.getElem?_map, List.getElem?_eq_getElem hjt]; rfl)))
            have d4 : wr.cell? ⟨g4, j, none⟩ = some (.string ts[j].s) := (HW.out _).trans ((HB.out.cell (p := ⟨g4, j, none⟩) l4).trans (h4 _ _ (by rw [List.getElem?_map, List.getElem?_eq_getElem hjt]; rfl)))
            clear h0 h1 h2 h3 h4 l1 l2 l3 l4
            generalize ts[j] = t at *
            go_wp2_with fail
            go_quiet (fail)
            go_wp2_with fail
            go_roundw
            case rel => exact ⟨j + 1, by go_num, by omega, HW.out, hst.step (below_drewN (Below.refl _ _) _)⟩
            case measure => simp [intOf]; omega
          · go_wp2_with (go_at_call 19; refine (haw _ hst.2).mono ?_; rintro e w' ⟨rfl, hb⟩; replace hst := hst.trans hb; clear hb)
            go_ret
            exact ⟨rfl, hst⟩
    · have hk2 : k = zs.length := by omega
      have hxl : ((zs.take k).map fun z => (z % 1048576).toNat).length = k := by rw [List.length_map, List.length_take]; omega
      generalize ((zs.take k).map fun z => (z % 1048576).toNat) = xs at *
      obtain ⟨hst, rfl, hat, hnu, hki, hte, _, _, _, _, _, _⟩ := hL
      have hcs := cat_size xs
      have hlx := (cat_lx xs).lexL (by omega)
      have hcl := fun w1 hg => lexall_any (wCat xs) w1 hg (by omega)
      rw [hlx] at hcl
      have htl : (wToks xs 0).length = k := by rw [toks_len]; exact hxl
      clear hlx
      obtain ⟨aa, ca, rfl, ra⟩ := row_read hat
      obtain ⟨an, cn, rfl, rn⟩ := row_read hnu
      obtain ⟨ak, ck, rfl, rk⟩ := row_read hki
      obtain ⟨at2, ct, rfl, rt⟩ := row_read hte
      rw [hxl] at ra rn rk rt
      clear hat hnu hki hte
      obtain ⟨ts, hts⟩ : ∃ ts, wToks xs 0 = ts := ⟨_, rfl⟩
      rw [hts] at ra rn rk rt hcl htl
      obtain ⟨S, hS⟩ : ∃ S, wCat xs = S := ⟨_, rfl⟩
      rw [hS] at hcl hcs ⊢
      rw [hxl]
      clear hS hts
      have Ra := Lib.hid ra
      have Rn := Lib.hid rn
      have Rk := Lib.hid rk
      have Rt := Lib.hid rt
      clear ra rn rk rt
      go_wp2_with fail
      refine (hcl _ hst.2).mono ?_; rintro e w1 ⟨⟨v, rfl, hown⟩, hb⟩
      obtain ⟨al, cl, rfl, rl⟩ := row_read hown
      have Rl := Lib.hid rl
      have HB := Lib.hid hb
      replace hst := hst.step hb
      clear hcl hown rl hb
      rw [show (ts, 0, 0).1.length = k from htl] at Rl ⊢
      go_wp2_with fail
      go_loopw [17] (fun i wr => ∃ j : Nat, i = .int .i64 j ∧ j ≤ k ∧ Hid (∀ p, wr.cell? p = w1.cell? p) ∧ St w wr) (fun i _ => k - (intOf i).toNat)
      case atStart => exact ⟨0, rfl, by omega, fun _ => rfl, hst⟩
      case round =>
        clear hst
        obtain ⟨j, rfl, hj, HW, hst⟩ := hrel
        by_cases hlt : j < k
        · have q5 : (j : Int) < (k : Int) := by omega
          have q6 : (0 : Int) ≤ (j : Int) := by omega
          have hjt : j < ts.length := by omega
          obtain ⟨g0, rfl, _, _, h0⟩ := Rl.out (by omega)
          obtain ⟨g1, rfl, _, l1, h1⟩ := Ra.out (by omega)
          obtain ⟨g2, rfl, _, l2, h2⟩ := Rn.out (by omega)
          obtain ⟨g3, rfl, _, l3, h3⟩ := Rk.out (by omega)
          obtain ⟨g4, rfl, _, l4, h4⟩ := Rt.out (by omega)
          have c0 : wr.cell? ⟨g0, j * 4, none⟩ = some (.int .i64 ts[j].kind) := (HW.out _).trans (h0 _ _ (by have := flatT_at ts j 0 hjt (by omega); rw [Nat.add_zero] at this; rw [this]; rfl))
          have c1 : wr.cell? ⟨g0, j * 4 + 1, none⟩ = some (.string ts[j].s) := (HW.out _).trans (h0 _ _ (by rw [flatT_at ts j 1 hjt (by omega)]; rfl))
          have c2 : wr.cell? ⟨g0, j * 4 + 2, none⟩ = some (.int .i64 ts[j].n) := (HW.out _).trans (h0 _ _ (by rw [flatT_at ts j 2 hjt (by omega)]; rfl))
          have c3 : wr.cell? ⟨g0, j * 4 + 3, none⟩ = some (.int .i64 ts[j].at_) := (HW.out _).trans (h0 _ _ (by rw [flatT_at ts j 3 hjt (by omega)]; rfl))
          have d1 : wr.cell? ⟨g1, j, none⟩ = some (.int .i64 ts[j].at_) := (HW.out _).trans ((HB.out.cell (p := ⟨g1, j, none⟩) l1).trans (h1 _ _ (by rw [List.getElem?_map, List.getElem?_eq_getElem hjt]; rfl)))
          have d2 : wr.cell? ⟨g2, j, none⟩ = some (.int .i64 ts[j].n) := (HW.out _).trans ((HB.out.cell (p := ⟨g2, j, none⟩) l2).trans (h2 _ _ (by rw [List.getElem?_map, List.getElem?_eq_getElem hjt]; rfl)))
          have d3 : wr.cell? ⟨g3, j, none⟩ = some (.int .i64 ts[j].kind) := (HW.out _).trans ((HB.out.cell (p := ⟨g3, j, none⟩) l3).trans (h3 _ _ (by rw [List.getElem?_map, List.getElem?_eq_getElem hjt]; rfl)))
          have d4 : wr.cell? ⟨g4, j, none⟩ = some (.string ts[j].s) := (HW.out _).trans ((HB.out.cell (p := ⟨g4, j, none⟩) l4).trans (h4 _ _ (by rw [List.getElem?_map, List.getElem?_eq_getElem hjt]; rfl)))
          clear h0 h1 h2 h3 h4 l1 l2 l3 l4
          generalize ts[j] = t at *
          go_wp2_with fail
          go_quiet (fail)
          go_wp2_with fail
          go_roundw
          case rel => exact ⟨j + 1, by go_num, by omega, HW.out, hst.step (below_drewN (Below.refl _ _) _)⟩
          case measure => simp [intOf]; omega
        · go_wp2_with (go_at_call 19; refine (haw _ hst.2).mono ?_; rintro e w' ⟨rfl, hb⟩; replace hst := hst.trans hb; clear hb)
          go_ret
          exact ⟨rfl, hst⟩

end Go.Proofs.YtljoenpgokhekaaDoor
