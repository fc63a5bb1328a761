/- Parts of the proof, joined: Kit LexD ChkA AwkA PlainPN LawPE LawPF. -/
import Derived.WalkKit
import Derived.WalkSpells
import Derived.WalkLawsBesides
import Derived.Lib.OthersKept
import Derived.Lib.Hide
import Derived.BigQuiet
import Derived.Test.YtfbgdjcnlnfoaaaGreatDoorB01
import Derived.Test.YtfbgdjcnlnfoaaaGreatDoorB02
import Derived.Test.YtfbgdjcnlnfoaaaGreatDoorB03
import Derived.Test.YtfbgdjcnlnfoaaaGreatDoorB04
import Derived.Test.YtfbgdjcnlnfoaaaGreatDoorB05
import Derived.Test.YtfbgdjcnlnfoaaaGreatDoorB06
import Derived.Test.YtfbgdjcnlnfoaaaGreatDoorB07
import Derived.Test.YtfbgdjcnlnfoaaaGreatDoorB08
import Derived.Test.YtfbgdjcnlnfoaaaGreatDoorB09
import Derived.Test.YtfbgdjcnlnfoaaaGreatDoorB10
import Derived.Test.YtfbgdjcnlnfoaaaGreatDoorB11
import Derived.Test.YtfbgdjcnlnfoaaaGreatDoorB12a
import Derived.Test.YtfbgdjcnlnfoaaaGreatDoorB12b
import Derived.Test.YtfbgdjcnlnfoaaaGreatDoorB12c
import Derived.Test.YtfbgdjcnlnfoaaaGreatDoorB12d
import Derived.Test.YtfbgdjcnlnfoaaaGreatDoorB12e
import Derived.Test.YtfbgdjcnlnfoaaaGreatDoorB12f
import Derived.Test.YtfbgdjcnlnfoaaaGreatDoorB12g
import Derived.Test.YtfbgdjcnlnfoaaaGreatDoorB12h
import Derived.Test.YtfbgdjcnlnfoaaaGreatDoorB12i
import Derived.Test.YtfbgdjcnlnfoaaaGreatDoorB12j
import Derived.Test.YtfbgdjcnlnfoaaaGreatDoorB13a
import Derived.Test.YtfbgdjcnlnfoaaaGreatDoorB13b
import Derived.Test.YtfbgdjcnlnfoaaaGreatDoorB13c
import Derived.Test.YtfbgdjcnlnfoaaaGreatDoorB13d
import Derived.Test.YtfbgdjcnlnfoaaaGreatDoorB13e
import Derived.Test.YtfbgdjcnlnfoaaaGreatDoorRows
namespace Go.Proofs.YtfbgdjcnlnfoaaaGreatDoor
open Go.RowKit
namespace Cle

theorem isEmpty_size (s : ByteArray) : s.toList.isEmpty = decide (s.size = 0) := by
  rw [ByteArray.toList_eq]
  obtain ⟨⟨l⟩⟩ := s
  cases l <;> rfl
end Cle
end Go.Proofs.YtfbgdjcnlnfoaaaGreatDoor

namespace Go.Proofs.YtfbgdjcnlnfoaaaGreatDoor
open Go.RowKit
open Cle

theorem Scn.gb {T : TypeId} {flat : List Pt → List Value} {L : Nat} {w w' : World} {b : Nat} {s : ByteArray} {P : List Pt} {i : Nat} (h : Scn T flat L w b s P i) (hb : w.grownBy w' none) : Scn T flat L w' b s P i :=
  h.below ⟨hb.os, hb.tape, hb.output, hb.size, fun k hk => hb.block k hk (by simp)⟩

end Go.Proofs.YtfbgdjcnlnfoaaaGreatDoor

namespace Go.Proofs.YtfbgdjcnlnfoaaaGreatDoor
open Go.RowKit
open Cle

set_option maxRecDepth 100000 in
set_option maxHeartbeats 4000000 in
theorem ptext_yes {w : World} {p : Pw} {L : List Pw} (hG : Gp w) (h : WdS w p L) (hs : SzS p L) (hm : May ⟨p.x, L.map Pw.x⟩) :
    Calls Tryz.prog 26 #[.agg p.arr] w fun e w' => e = .returned (.string (textS ⟨p.x, L.map Pw.x⟩)) ∧ Below w.heap.size w w' := by
  have hB1 := (Below.refl w.heap.size w).alloc (Nat.le_refl _) (.cells p.arr 31)
  have hbl : (w.alloc (.cells p.arr 31)).heap[w.heap.size]? = some (.cells p.arr 31 (0, 0)) := blk_new w _
  have hc := check_any (hG.below hB1) (h.below hB1) hs
  have hL8 : L.length ≤ 100 := by have := (light_sizes (may_lightS hm)).2.1; simp at this; omega
  have HT : Hid (∀ w', Below w.heap.size w w' → Calls Tryz.prog 30 #[.agg p.arr] w' fun e w'' => e = .returned (.string (textS ⟨p.x, L.map Pw.x⟩)) ∧ Below w'.heap.size w' w'') := fun w' hb => wtext_any (hG.below hb) (h.below hb) hs hL8
  have HM := Lib.hid hm
  clear hm h hs hL8
  obtain ⟨x, tc, c, s, wv, pv⟩ := p
  go_enter Tryz.func26, Tryz.ntmps26
  go_wp2_with (refine wpl_st rfl _ rfl rfl rfl hbl ?_)
  refine hc.mono ?_; rintro e w2 ⟨b, rfl, hb, hb2⟩
  have hbt := hb.2 HM.out
  subst hbt
  have hB2 := hB1.trans (hb2.mono hB1.size)
  have hbl2 := keep_blk hb2 hbl
  have h2 := HT.out w2 hB2
  clear hb hc
  go_wp2_with (refine wpl_st rfl _ rfl rfl rfl hbl2 ?_)
  refine h2.mono ?_; rintro e w3 ⟨rfl, hb3⟩
  go_wp2_with fail
  go_ret
  exact ⟨rfl, hB2.trans (hb3.mono hB2.size)⟩
set_option maxRecDepth 100000 in
set_option maxHeartbeats 4000000 in
theorem ptext_no {w : World} {p : Pw} {L : List Pw} (hG : Gp w) (h : WdS w p L) (hs : SzS p L) (hm : ¬ May ⟨p.x, L.map Pw.x⟩) :
    Calls Tryz.prog 26 #[.agg p.arr] w fun e w' => e = .returned (.string ⟨#[]⟩) ∧ Below w.heap.size w w' := by
  have hB1 := (Below.refl w.heap.size w).alloc (Nat.le_refl _) (.cells p.arr 31)
  have hbl : (w.alloc (.cells p.arr 31)).heap[w.heap.size]? = some (.cells p.arr 31 (0, 0)) := blk_new w _
  have hc := check_any (hG.below hB1) (h.below hB1) hs
  have HM := Lib.hid hm
  clear hm h hs
  obtain ⟨x, tc, c, s, wv, pv⟩ := p
  go_enter Tryz.func26, Tryz.ntmps26
  go_wp2_with (refine wpl_st rfl _ rfl rfl rfl hbl ?_)
  refine hc.mono ?_; rintro e w2 ⟨b, rfl, hb, hb2⟩
  have hbt : b = false := by
    cases b with
    | false => rfl
    | true => exact absurd (hb.1 rfl) HM.out
  subst hbt
  clear hb hc
  go_wp2_with fail
  go_ret
  exact ⟨rfl, hB1.trans (hb2.mono hB1.size)⟩
end Go.Proofs.YtfbgdjcnlnfoaaaGreatDoor

namespace Go.Proofs.YtfbgdjcnlnfoaaaGreatDoor
open Go.RowKit
open Cle

theorem drv_res : (parseL (⟨#[100, 114, 111, 112, 32, 32, 32, 86, 32, 59]⟩ : ByteArray)).2.1 = 0 ∧ (parseL (⟨#[100, 114, 111, 112, 32, 32, 32, 86, 32, 59]⟩ : ByteArray)).2.2 = 0 ∧ textS (parseL (⟨#[100, 114, 111, 112, 32, 32, 32, 86, 32, 59]⟩ : ByteArray)).1 = (⟨#[68, 82, 79, 80, 32, 118]⟩ : ByteArray) := by decide +kernel
set_option maxRecDepth 100000 in
set_option maxHeartbeats 8000000 in
theorem awake15_any {w : World} (hG : Gp w) : Calls Tryz.prog 25 #[] w fun e w' => e = .returned (.bool true) ∧ Sp w w' := by
  obtain ⟨r1, r2, r3⟩ := drv_res
  have hm := Lib.hid (may_of r2)
  obtain ⟨z, hz⟩ : ∃ z, (parseL (⟨#[100, 114, 111, 112, 32, 32, 32, 86, 32, 59]⟩ : ByteArray)).1 = z := ⟨_, rfl⟩
  have hp1 := parse_at hG hz r1 r2
  rw [hz] at r3 hm
  have R3 := Lib.hid r3
  have HG := Lib.hid hG
  clear r1 r2 r3 hz hG
  go_enter Tryz.func25, Tryz.ntmps25
  go_wp2_with fail
  refine hp1.mono ?_; rintro en w1 ⟨x, tc, c, s, wv, pv, L, rfl, hb1, hS1⟩
  have hS : Sp w w1 := (Sp.refl HG.out).step hb1
  have hq1 := hS1.wd.one
  have hS2 := hS.alloc (.cells (stC x tc c s wv pv) 31)
  have hM : May ⟨x, L.map Pw.x⟩ := by rw [show (⟨x, L.map Pw.x⟩ : Stt) = z from hS1.z]; exact hm.out
  have ht := ptext_yes (w := w1.alloc (.cells (stC x tc c s wv pv) 31)) (p := ⟨x, tc, c, s, wv, pv⟩) (L := L) hS2.2 (hS1.wd.below ((Below.refl _ _).alloc (Nat.le_refl _) _)) (may_sz hM) hM
  rw [show (⟨x, L.map Pw.x⟩ : Stt) = z from hS1.z, R3.out] at ht
  have hbl := blk_new w1 (.cells (stC x tc c s wv pv) 31)
  clear hS1 hM hb1 hp1
  go_wp2_with (first | refine wpl_sto2 rfl _ _ rfl rfl rfl rfl rfl hq1 ?_ | refine wpl_stgd (by go_simp) _ rfl rfl rfl hbl ?_)
  refine ht.mono ?_; rintro en w5 ⟨rfl, hb5⟩
  go_wp2_with fail
  go_ret
  exact ⟨rfl, hS2.step hb5⟩
end Go.Proofs.YtfbgdjcnlnfoaaaGreatDoor

namespace Go.Proofs.YtfbgdjcnlnfoaaaGreatDoor
namespace Cle

theorem may_kind {z : Stt} (h : May z) : 1 ≤ z.x.kind ∧ z.x.kind ≤ 9 := by
  obtain ⟨nd, L, h1, rfl, _⟩ := h
  cases h1 with
  | change h => cases h <;> exact ⟨of_decide_eq_true rfl, of_decide_eq_true rfl⟩
  | batch => exact ⟨of_decide_eq_true rfl, of_decide_eq_true rfl⟩
  | plain h =>
    cases h with
    | table o c v a h =>
      obtain ⟨p, q, D, _, _, e0, _, _⟩ := table_canon h
      show 1 ≤ (tableX o c v a).kind ∧ (tableX o c v a).kind ≤ 9
      rw [e0]
      exact ⟨of_decide_eq_true rfl, of_decide_eq_true rfl⟩
    | view => exact ⟨of_decide_eq_true rfl, of_decide_eq_true rfl⟩
    | index => exact ⟨of_decide_eq_true rfl, of_decide_eq_true rfl⟩
    | drop => exact ⟨of_decide_eq_true rfl, of_decide_eq_true rfl⟩
    | ask => exact ⟨of_decide_eq_true rfl, of_decide_eq_true rfl⟩
theorem may_ask {z : Stt} (h : May z) (hk : z.x.kind = 8) : ∃ cols o wher limit, askOK cols o wher limit ∧ z = ⟨askX cols o wher limit, []⟩ := by
  obtain ⟨nd, L, h1, rfl, _⟩ := h
  cases h1 with
  | change h => cases h <;> exact absurd hk (of_decide_eq_false rfl)
  | batch => exact absurd hk (of_decide_eq_false rfl)
  | plain h =>
    cases h with
    | table o c v a h =>
      obtain ⟨p, q, D, _, _, e0, _, _⟩ := table_canon h
      have hk2 : (tableX o c v a).kind = 8 := hk
      rw [e0] at hk2
      exact absurd hk2 (of_decide_eq_false rfl)
    | view => exact absurd hk (of_decide_eq_false rfl)
    | index => exact absurd hk (of_decide_eq_false rfl)
    | drop => exact absurd hk (of_decide_eq_false rfl)
    | ask cols o wher limit h => exact ⟨cols, o, wher, limit, h, rfl⟩
def queX : Sx := { Sx.zero with kind := 8, of_ := (⟨#[116]⟩ : ByteArray), wher := [⟨(⟨#[112]⟩ : ByteArray), ⟨1, (⟨#[120]⟩ : ByteArray), 0⟩⟩] }
theorem name_t : nameOK (⟨#[116]⟩ : ByteArray) := ⟨by decide +kernel, by decide +kernel, by decide, by decide +kernel⟩
theorem name_p : nameOK (⟨#[112]⟩ : ByteArray) := ⟨by decide +kernel, by decide +kernel, by decide, by decide +kernel⟩
theorem que_ok : askOK [] (⟨#[116]⟩ : ByteArray) [⟨(⟨#[112]⟩ : ByteArray), ⟨1, (⟨#[120]⟩ : ByteArray), 0⟩⟩] 0 := by
  refine ⟨⟨by simp, trivial, by decide⟩, name_t, ⟨?_, .inr ⟨rfl, rfl⟩⟩, .inl rfl⟩
  intro p hp
  rw [List.mem_singleton.1 hp]
  exact ⟨name_p, .inl ⟨rfl, by decide +kernel, by decide, rfl⟩⟩
theorem que_may : May ⟨queX, []⟩ := ⟨.plain queX, _, .plain (.ask [] (⟨#[116]⟩ : ByteArray) [⟨(⟨#[112]⟩ : ByteArray), ⟨1, (⟨#[120]⟩ : ByteArray), 0⟩⟩] 0 que_ok), rfl, by decide +kernel⟩
theorem que_text : textS ⟨queX, []⟩ ≠ ⟨#[]⟩ := by decide +kernel
theorem que_kind (k : Int) (hk : 1 ≤ k) : ¬ May ⟨{ queX with kind := 9 + k }, []⟩ := by
  intro h
  have := (may_kind h).2
  have e : (9 + k : Int) ≤ 9 := this
  omega
theorem que_of : ¬ May ⟨{ queX with of_ := (⟨#[115, 101, 108, 101, 99, 116]⟩ : ByteArray) }, []⟩ := by
  intro h
  obtain ⟨cols, o, wher, limit, ok, e⟩ := may_ask h rfl
  have e2 : (⟨#[115, 101, 108, 101, 99, 116]⟩ : ByteArray) = o := congrArg (fun z => z.x.of_) e
  have h2 := ok.2.1.2.2.2
  rw [← e2] at h2
  exact absurd h2 (by decide +kernel)
theorem que_limit (k : Int) (hk : 1 ≤ k) : ¬ May ⟨{ queX with limit := -k }, []⟩ := by
  intro h
  obtain ⟨cols, o, wher, limit, ok, e⟩ := may_ask h rfl
  have e2 : -k = limit := congrArg (fun z => z.x.limit) e
  have h2 := ok.2.2.2
  unfold countOK at h2
  omega
theorem que_where : ¬ May ⟨{ queX with wher := [] }, []⟩ := by
  intro h
  obtain ⟨cols, o, wher, limit, ok, e⟩ := may_ask h rfl
  have e2 : [] = wher := congrArg (fun z => z.x.wher) e
  have h2 := ok.2.2.1.2
  rw [← e2] at h2
  rcases h2 with h2 | ⟨_, h2⟩ <;> exact absurd h2 (by decide)
theorem que_term {t : Tm} (h : May ⟨{ queX with wher := [⟨(⟨#[112]⟩ : ByteArray), t⟩] }, []⟩) : termOK t := by
  obtain ⟨cols, o, wher, limit, ok, e⟩ := may_ask h rfl
  have e2 : [⟨(⟨#[112]⟩ : ByteArray), t⟩] = wher := congrArg (fun z => z.x.wher) e
  have h2 := ok.2.2.1.1
  rw [← e2] at h2
  exact (h2 _ (List.mem_cons_self ..)).2
theorem que_type (k : Int) (hk : 1 ≤ k) (s : ByteArray) (n : Int) : ¬ May ⟨{ queX with wher := [⟨(⟨#[112]⟩ : ByteArray), ⟨2 + k, s, n⟩⟩] }, []⟩ := by
  intro h
  have h2 := que_term h
  rcases h2 with h2 | h2
  · have := h2.1
    have e : (2 + k : Int) = 1 := this
    omega
  · have := h2.1
    have e : (2 + k : Int) = 2 := this
    omega
theorem que_bad : ¬ May ⟨{ queX with wher := [⟨(⟨#[112]⟩ : ByteArray), ⟨1, ⟨#[255]⟩, 0⟩⟩] }, []⟩ := by
  intro h
  have h2 := que_term h
  rcases h2 with h2 | h2
  · exact absurd h2.2.1 (by decide +kernel)
  · exact absurd h2.1 (by decide)
theorem que_cols : ¬ May ⟨{ queX with cols := [(⟨#[97]⟩ : ByteArray), (⟨#[97]⟩ : ByteArray)] }, []⟩ := by
  intro h
  obtain ⟨cols, o, wher, limit, ok, e⟩ := may_ask h rfl
  have e2 : [(⟨#[97]⟩ : ByteArray), (⟨#[97]⟩ : ByteArray)] = cols := congrArg (fun z => z.x.cols) e
  have h2 := ok.1.2.1
  rw [← e2] at h2
  have h3 := ((distF_iff _ _).1 h2).2
  exact absurd h3 (by decide +kernel)
theorem que_stamp (k : Int) (hk : 1 ≤ k) : ¬ May ⟨{ queX with stamp := k }, []⟩ := by
  intro h
  obtain ⟨cols, o, wher, limit, ok, e⟩ := may_ask h rfl
  have e2 : k = 0 := congrArg (fun z => z.x.stamp) e
  omega
theorem que_name : ¬ May ⟨{ queX with name := (⟨#[110]⟩ : ByteArray) }, []⟩ := by
  intro h
  obtain ⟨cols, o, wher, limit, ok, e⟩ := may_ask h rfl
  have e2 : (⟨#[110]⟩ : ByteArray) = ⟨#[]⟩ := congrArg (fun z => z.x.name) e
  exact absurd e2 (by decide +kernel)

def chaX (s : ByteArray) (v stamp : Int) : Sx := { Sx.zero with kind := 6, of_ := (⟨#[116]⟩ : ByteArray), stamp := stamp, sets := [⟨(⟨#[97]⟩ : ByteArray), ⟨1, s, 0⟩⟩], wher := [⟨(⟨#[112]⟩ : ByteArray), ⟨2, ⟨#[]⟩, v⟩⟩, ⟨(⟨#[107]⟩ : ByteArray), ⟨1, (⟨#[120]⟩ : ByteArray), 0⟩⟩] }
theorem cha_text (s : ByteArray) (v stamp : Int) : ∃ r, textS ⟨chaX s v stamp, []⟩ = (⟨#[85, 80, 68, 65, 84, 69, 32]⟩ : ByteArray) ++ r ∧ 0 < r.size := by
  refine ⟨(⟨#[116]⟩ : ByteArray) ++ catP (usingP stamp 0 ++ [.bl, .wd (⟨#[83, 69, 84]⟩ : ByteArray), .bl] ++ sepP commaP ([⟨(⟨#[97]⟩ : ByteArray), ⟨1, s, 0⟩⟩].map equalP) ++ whereP [⟨(⟨#[112]⟩ : ByteArray), ⟨2, ⟨#[]⟩, v⟩⟩, ⟨(⟨#[107]⟩ : ByteArray), ⟨1, (⟨#[120]⟩ : ByteArray), 0⟩⟩]), ?_, ?_⟩
  · show catP ([.wd (⟨#[85, 80, 68, 65, 84, 69]⟩ : ByteArray), .bl, .wd (⟨#[116]⟩ : ByteArray)] ++ usingP stamp 0 ++ [.bl, .wd (⟨#[83, 69, 84]⟩ : ByteArray), .bl] ++ sepP commaP ([⟨(⟨#[97]⟩ : ByteArray), ⟨1, s, 0⟩⟩].map equalP) ++ whereP [⟨(⟨#[112]⟩ : ByteArray), ⟨2, ⟨#[]⟩, v⟩⟩, ⟨(⟨#[107]⟩ : ByteArray), ⟨1, (⟨#[120]⟩ : ByteArray), 0⟩⟩]) = _
    rw [List.append_assoc, List.append_assoc, List.append_assoc, catP_app]
    rw [List.append_assoc, List.append_assoc]
    rw [← app_assoc]
    rfl
  · rw [ByteArray.size_append]
    have : ((⟨#[116]⟩ : ByteArray)).size = 1 := rfl
    omega
end Cle
end Go.Proofs.YtfbgdjcnlnfoaaaGreatDoor

namespace Go.Proofs.YtfbgdjcnlnfoaaaGreatDoor
open Go.RowKit
open Cle

theorem build_que (k : Int) (o : ByteArray) (a : Option Addr) (n c : Nat) (w : World) : (Instr.build 31 #[(0, .int .i64 k), (2, .string o), (7, .slice a n c)]).run Tryz.prog w = .ok (.agg #[.int .i64 k, .string ⟨#[]⟩, .string o, .string ⟨#[]⟩, .string ⟨#[]⟩, .int .i64 0, .string ⟨#[]⟩, .int .i64 0, .string ⟨#[]⟩, .int .i64 0, .slice none 0 0, .slice none 0 0, .slice none 0 0, .slice a n c, .int .i64 0, .int .i64 0, .int .i64 0, .slice none 0 0]) w := by kernel_rfl
theorem stok_of {x : Sx} (h1 : x.name.size ≤ 100) (h2 : x.of_.size ≤ 100) (h3 : x.on = ⟨#[]⟩) (h4 : x.part = Cl.zero) (h5 : x.clus = Cl.zero) (h6 : x.tcols = []) (h7 : x.cols.length ≤ 5 ∧ ∀ q ∈ x.cols, q.size ≤ 100) (h8 : x.sets = []) (h9 : x.wher.length ≤ 2 ∧ ∀ q ∈ x.wher, (I64 q.t.ty ∧ I64 q.t.n ∧ q.t.s.size ≤ 100) ∧ q.name.size ≤ 100) (h10 : I64 x.stamp) (h11 : I64 x.ttl) (h12 : I64 x.limit) : StOK x := by
  refine ⟨by omega, by omega, by rw [h3]; decide, by rw [h4]; decide, by rw [h5]; decide, by rw [h6]; exact ⟨by decide, by simp⟩, ⟨by omega, fun q hq => by have := h7.2 q hq; omega⟩, by rw [h8]; exact ⟨by decide, by simp⟩, ⟨by omega, fun q hq => ?_⟩, by omega, h10, h11, h12⟩
  obtain ⟨⟨a, b, c⟩, d⟩ := h9.2 q hq
  exact ⟨⟨a, b, by omega⟩, by omega⟩
theorem queW : (queX.wher.length ≤ 2 ∧ ∀ q ∈ queX.wher, (I64 q.t.ty ∧ I64 q.t.n ∧ q.t.s.size ≤ 100) ∧ q.name.size ≤ 100) := ⟨by decide, fun q hq => by rw [List.mem_singleton.1 hq]; exact ⟨⟨⟨by decide, by decide⟩, ⟨by decide, by decide⟩, by decide⟩, by decide⟩⟩
theorem que_wds {W : World} {x : Sx} {c : Value} {g : Nat} {n : ByteArray} {ty m : Int} {s : ByteArray} {T : TypeId} (h1 : x.tcols = []) (h2 : Rd W c x.cols.length (x.cols.map Value.string)) (h3 : x.sets = []) (h4 : x.wher = [⟨n, ⟨ty, s, m⟩⟩]) (hb : W.heap[g]? = some (.cells #[.string n, .int .i64 ty, .string s, .int .i64 m] T (0, 0))) :
    WdS W ⟨x, vnil, c, vnil, .slice (some ⟨g, 0, none⟩) 1 1, vnil⟩ [] := by
  refine ⟨⟨by rw [h1]; exact rd_vnil W, h2, by rw [h3]; exact rd_vnil W, ?_⟩, rd_vnil W, by simp⟩
  rw [h4]
  refine ⟨_, _, rfl, fun _ => ⟨g, 0, rfl, fun k v hk => ?_⟩⟩
  rw [Nat.zero_add, blk_cell hb]
  simpa [flatR, prCells] using hk
theorem que_wds0 {W : World} {x : Sx} (h1 : x.tcols = []) (h2 : x.cols = []) (h3 : x.sets = []) (h4 : x.wher = []) : WdS W ⟨x, vnil, vnil, vnil, vnil, vnil⟩ [] :=
  ⟨⟨by rw [h1]; exact rd_vnil W, by rw [h2]; exact rd_vnil W, by rw [h3]; exact rd_vnil W, by rw [h4]; exact rd_vnil W⟩, rd_vnil W, by simp⟩
theorem tx_ne {t : ByteArray} (h : t ≠ ⟨#[]⟩) : t.toList.isEmpty = false := by
  rw [isEmpty_size]
  exact decide_eq_false fun h2 => h (by apply ByteArray.ext; exact Array.eq_empty_of_size_eq_zero h2)
theorem none_tail {W : World} {P : Pw} (hG : Gp W) (hw : WdS W P []) (hs : StOK P.x) (hm : ¬ May ⟨P.x, []⟩) :
    (Calls Tryz.prog 26 #[.agg P.arr] W fun e w' => e = .returned (.string ⟨#[]⟩) ∧ Below W.heap.size W w') ∧
    ∀ w4, Below W.heap.size W w4 → Calls Tryz.prog 16 #[.agg P.arr] w4 fun e w' => e = .returned (.bool false) ∧ Below w4.heap.size w4 w' := by
  refine ⟨ptext_no hG hw ⟨hs, by simp⟩ hm, fun w4 hb => (check_any (hG.below hb) (hw.below hb) ⟨hs, by simp⟩).mono ?_⟩
  rintro e w' ⟨b, rfl, hb1, hb2⟩
  cases b with
  | false => exact ⟨rfl, hb2⟩
  | true => exact absurd (hb1.1 rfl) hm
set_option maxRecDepth 100000 in
set_option maxHeartbeats 8000000 in
theorem printNone_law (n v : Int) (w : World) (hG : Gp w) (hn0 : -9223372036854775808 ≤ n) (hn1 : n ≤ 9223372036854775807) (hv0 : -9223372036854775808 ≤ v) (hv1 : v ≤ 9223372036854775807) :
    Calls Tryz.prog 13 #[.int .i64 n, .int .i64 v] w fun e w' => e = .returned (.bool true) ∧ Sp w w' := by
  have hpn := fun w => place_any n 9 w (by omega) (by omega) hn0 hn1
  obtain ⟨j, hj⟩ : ∃ j : Nat, n % 9 = j := ⟨(n % 9).toNat, by omega⟩
  have hjl : j < 9 := by omega
  rw [hj] at hpn
  have hpv := fun w => place_any v 1000 w (by omega) (by omega) hv0 hv1
  obtain ⟨k, hk⟩ : ∃ k : Nat, v % 1000 = k := ⟨(v % 1000).toNat, by omega⟩
  have hkl : k < 1000 := by omega
  rw [hk] at hpv
  have HG := Lib.hid hG
  have hbq := build_que
  clear hj hk hn0 hn1 hv0 hv1 hG
  go_enter Tryz.func13, Tryz.ntmps13
  go_wp2_with fail
  refine (hpv _).mono ?_; rintro e w1 ⟨rfl, rfl⟩
  have hsz := sz_alloc w (.cells #[.string (⟨#[112]⟩ : ByteArray), .int .i64 1, .string (⟨#[120]⟩ : ByteArray), .int .i64 0] 61)
  have hone : (#[.int .i64 8, .string ⟨#[]⟩, .string (⟨#[116]⟩ : ByteArray), .string ⟨#[]⟩, .string ⟨#[]⟩, .int .i64 0, .string ⟨#[]⟩, .int .i64 0, .string ⟨#[]⟩, .int .i64 0, .slice none 0 0, .slice none 0 0, .slice none 0 0, .slice (some ⟨w.heap.size, 0, none⟩) 1 1, .int .i64 0, .int .i64 0, .int .i64 0, .slice none 0 0] : Array Value).toList.all (·.oneCell') = true := rfl
  have hS1 := ((Sp.refl HG.out).alloc (.cells #[.string (⟨#[112]⟩ : ByteArray), .int .i64 1, .string (⟨#[120]⟩ : ByteArray), .int .i64 0] 61)).alloc (.cells #[.int .i64 8, .string ⟨#[]⟩, .string (⟨#[116]⟩ : ByteArray), .string ⟨#[]⟩, .string ⟨#[]⟩, .int .i64 0, .string ⟨#[]⟩, .int .i64 0, .string ⟨#[]⟩, .int .i64 0, .slice none 0 0, .slice none 0 0, .slice none 0 0, .slice (some ⟨w.heap.size, 0, none⟩) 1 1, .int .i64 0, .int .i64 0, .int .i64 0, .slice none 0 0] 31)
  have hpr := blk_alloc (blk_new w (.cells #[.string (⟨#[112]⟩ : ByteArray), .int .i64 1, .string (⟨#[120]⟩ : ByteArray), .int .i64 0] 61)) (.cells #[.int .i64 8, .string ⟨#[]⟩, .string (⟨#[116]⟩ : ByteArray), .string ⟨#[]⟩, .string ⟨#[]⟩, .int .i64 0, .string ⟨#[]⟩, .int .i64 0, .string ⟨#[]⟩, .int .i64 0, .slice none 0 0, .slice none 0 0, .slice none 0 0, .slice (some ⟨w.heap.size, 0, none⟩) 1 1, .int .i64 0, .int .i64 0, .int .i64 0, .slice none 0 0] 31)
  have hbx := blk_new (w.alloc (.cells #[.string (⟨#[112]⟩ : ByteArray), .int .i64 1, .string (⟨#[120]⟩ : ByteArray), .int .i64 0] 61)) (.cells #[.int .i64 8, .string ⟨#[]⟩, .string (⟨#[116]⟩ : ByteArray), .string ⟨#[]⟩, .string ⟨#[]⟩, .int .i64 0, .string ⟨#[]⟩, .int .i64 0, .string ⟨#[]⟩, .int .i64 0, .slice none 0 0, .slice none 0 0, .slice none 0 0, .slice (some ⟨w.heap.size, 0, none⟩) 1 1, .int .i64 0, .int .i64 0, .int .i64 0, .slice none 0 0] 31)
  rw [hsz] at hbx
  have hbx0 := hbx
  obtain ⟨W, hW⟩ : ∃ W, (w.alloc (.cells #[.string (⟨#[112]⟩ : ByteArray), .int .i64 1, .string (⟨#[120]⟩ : ByteArray), .int .i64 0] 61)).alloc (.cells #[.int .i64 8, .string ⟨#[]⟩, .string (⟨#[116]⟩ : ByteArray), .string ⟨#[]⟩, .string ⟨#[]⟩, .int .i64 0, .string ⟨#[]⟩, .int .i64 0, .string ⟨#[]⟩, .int .i64 0, .slice none 0 0, .slice none 0 0, .slice none 0 0, .slice (some ⟨w.heap.size, 0, none⟩) 1 1, .int .i64 0, .int .i64 0, .int .i64 0, .slice none 0 0] 31) = W := ⟨_, rfl⟩
  rw [hW] at hS1 hpr hbx
  have HS1 := Lib.hid hS1
  have HPR := Lib.hid hpr
  have HBX := Lib.hid hbx
  have hwd : WdS W ⟨queX, vnil, vnil, vnil, .slice (some ⟨w.heap.size, 0, none⟩) 1 1, vnil⟩ [] := que_wds rfl (rd_vnil W) rfl rfl hpr
  have ht := ptext_yes hS1.2 hwd (may_sz que_may) que_may
  have hte := que_text
  obtain ⟨t, htt⟩ : ∃ t, textS ⟨queX, []⟩ = t := ⟨_, rfl⟩
  rw [htt] at hte
  rw [show textS ⟨Pw.x ⟨queX, vnil, vnil, vnil, .slice (some ⟨w.heap.size, 0, none⟩) 1 1, vnil⟩, List.map Pw.x []⟩ = t from htt] at ht
  have hte2 : t.toList.isEmpty = false := tx_ne hte
  clear hS1 hpr hwd htt hte
  go_wp2_with (first | refine wpl_sto2 rfl _ _ rfl hsz.symm rfl rfl rfl hone ?_ | refine wpl_stgd (by go_simp) _ rfl rfl rfl hbx0 ?_ | refine wpl_stgd (by go_simp) _ rfl rfl rfl hbx ?_)
  refine ht.mono ?_; rintro e w2 ⟨rfl, hb2⟩
  go_wp2_with fail
  have HS2 : Hid (Sp w w2) := HS1.out.step hb2
  have hbx2 := keep_blk hb2 hbx
  have hpr2 := keep_blk hb2 HPR.out
  clear hb2 hbx hbx0 hbq hone hte2 hsz
  refine (hpn _).mono ?_; rintro e w3 ⟨rfl, rfl⟩
  have h : j = 0 ∨ j = 1 ∨ j = 2 ∨ j = 3 ∨ j = 4 ∨ j = 5 ∨ j = 6 ∨ j = 7 ∨ j = 8 := by omega
  clear hpn hpv hjl
  rcases h with rfl | rfl | rfl | rfl | rfl | rfl | rfl | rfl | rfl
  · have f0 : w2.frozen? ⟨w.heap.size + 1, 0, none⟩ = false := blk_frozen0 hbx2 0
    have c0 : w2.cell? ⟨w.heap.size + 1, 0, none⟩ = some (.int .i64 8) := by rw [blk_cell hbx2]; rfl
    have hbx3 : (w2.setCell ⟨w.heap.size + 1, 0, none⟩ (.int .i64 (9 + (1 + (k : Int))))).heap[w.heap.size + 1]? = some (.cells #[.int .i64 (9 + (1 + (k : Int))), .string ⟨#[]⟩, .string (⟨#[116]⟩ : ByteArray), .string ⟨#[]⟩, .string ⟨#[]⟩, .int .i64 0, .string ⟨#[]⟩, .int .i64 0, .string ⟨#[]⟩, .int .i64 0, .slice none 0 0, .slice none 0 0, .slice none 0 0, .slice (some ⟨w.heap.size, 0, none⟩) 1 1, .int .i64 0, .int .i64 0, .int .i64 0, .slice none 0 0] 31 (0, 0)) := by rw [blk_set hbx2 0 _]; rfl
    have hpr3 := blk_setOther hpr2 ⟨w.heap.size + 1, 0, none⟩ (.int .i64 (9 + (1 + (k : Int)))) (show w.heap.size ≠ w.heap.size + 1 by omega)
    have HB3 : Below w.heap.size w (w2.setCell ⟨w.heap.size + 1, 0, none⟩ (.int .i64 (9 + (1 + (k : Int))))) := HS2.out.1.setCell (by show w.heap.size ≤ w.heap.size + 1; omega) _
    have hnt := none_tail (P := ⟨{ queX with kind := 9 + (1 + (k : Int)) }, vnil, vnil, vnil, .slice (some ⟨w.heap.size, 0, none⟩) 1 1, vnil⟩) (HG.out.below HB3) (que_wds rfl (rd_vnil _) rfl rfl hpr3) (stok_of (of_decide_eq_true rfl) (of_decide_eq_true rfl) rfl rfl rfl rfl ⟨of_decide_eq_true rfl, by simp [queX, Sx.zero]⟩ rfl queW ⟨of_decide_eq_true rfl, of_decide_eq_true rfl⟩ ⟨of_decide_eq_true rfl, of_decide_eq_true rfl⟩ ⟨of_decide_eq_true rfl, of_decide_eq_true rfl⟩) (que_kind (1 + (k : Int)) (by omega))
    obtain ⟨W3, hW3⟩ : ∃ W3, w2.setCell ⟨w.heap.size + 1, 0, none⟩ (.int .i64 (9 + (1 + (k : Int)))) = W3 := ⟨_, rfl⟩
    rw [hW3] at hbx3 HB3 hnt
    have HNT := Lib.hid hnt.2
    have ht3 := hnt.1
    have HSP3 : Hid (Sp w W3) := ⟨HB3, HG.out.below HB3⟩
    clear hnt HB3
    go_wp2_with (first | refine wpl_stgd (by go_simp) _ rfl rfl rfl hbx3 ?_)
    refine ht3.mono ?_; rintro e w4 ⟨rfl, hb4⟩
    have hc4 := HNT.out w4 hb4
    have hbx4 := keep_blk hb4 hbx3
    have HS4 : Hid (Sp w w4) := HSP3.out.step hb4
    clear ht3 hbx3 hb4
    go_wp2_with (first | refine wpl_stgd (by go_simp) _ rfl rfl rfl hbx4 ?_)
    refine hc4.mono ?_; rintro e w5 ⟨rfl, hb5⟩
    have HS5 : Hid (Sp w w5) := HS4.out.step hb5
    have haw := awake15_any HS5.out.2
    clear hb5 hc4 hbx4
    go_wp2_with fail
    refine haw.mono ?_; rintro e w7 ⟨rfl, h7⟩
    go_wp2_with fail
    go_ret
    exact ⟨rfl, HS5.out.trans h7⟩
  · have f0 : w2.frozen? ⟨w.heap.size + 1, 2, none⟩ = false := blk_frozen0 hbx2 2
    have c0 : w2.cell? ⟨w.heap.size + 1, 2, none⟩ = some (.string (⟨#[116]⟩ : ByteArray)) := by rw [blk_cell hbx2]; rfl
    have hbx3 : (w2.setCell ⟨w.heap.size + 1, 2, none⟩ (.string (⟨#[115, 101, 108, 101, 99, 116]⟩ : ByteArray))).heap[w.heap.size + 1]? = some (.cells #[.int .i64 8, .string ⟨#[]⟩, .string (⟨#[115, 101, 108, 101, 99, 116]⟩ : ByteArray), .string ⟨#[]⟩, .string ⟨#[]⟩, .int .i64 0, .string ⟨#[]⟩, .int .i64 0, .string ⟨#[]⟩, .int .i64 0, .slice none 0 0, .slice none 0 0, .slice none 0 0, .slice (some ⟨w.heap.size, 0, none⟩) 1 1, .int .i64 0, .int .i64 0, .int .i64 0, .slice none 0 0] 31 (0, 0)) := by rw [blk_set hbx2 2 _]; rfl
    have hpr3 := blk_setOther hpr2 ⟨w.heap.size + 1, 2, none⟩ (.string (⟨#[115, 101, 108, 101, 99, 116]⟩ : ByteArray)) (show w.heap.size ≠ w.heap.size + 1 by omega)
    have HB3 : Below w.heap.size w (w2.setCell ⟨w.heap.size + 1, 2, none⟩ (.string (⟨#[115, 101, 108, 101, 99, 116]⟩ : ByteArray))) := HS2.out.1.setCell (by show w.heap.size ≤ w.heap.size + 1; omega) _
    have hnt := none_tail (P := ⟨{ queX with of_ := (⟨#[115, 101, 108, 101, 99, 116]⟩ : ByteArray) }, vnil, vnil, vnil, .slice (some ⟨w.heap.size, 0, none⟩) 1 1, vnil⟩) (HG.out.below HB3) (que_wds rfl (rd_vnil _) rfl rfl hpr3) (stok_of (of_decide_eq_true rfl) (of_decide_eq_true rfl) rfl rfl rfl rfl ⟨of_decide_eq_true rfl, by simp [queX, Sx.zero]⟩ rfl queW ⟨of_decide_eq_true rfl, of_decide_eq_true rfl⟩ ⟨of_decide_eq_true rfl, of_decide_eq_true rfl⟩ ⟨of_decide_eq_true rfl, of_decide_eq_true rfl⟩) (que_of)
    obtain ⟨W3, hW3⟩ : ∃ W3, w2.setCell ⟨w.heap.size + 1, 2, none⟩ (.string (⟨#[115, 101, 108, 101, 99, 116]⟩ : ByteArray)) = W3 := ⟨_, rfl⟩
    rw [hW3] at hbx3 HB3 hnt
    have HNT := Lib.hid hnt.2
    have ht3 := hnt.1
    have HSP3 : Hid (Sp w W3) := ⟨HB3, HG.out.below HB3⟩
    clear hnt HB3
    go_wp2_with (first | refine wpl_stgd (by go_simp) _ rfl rfl rfl hbx3 ?_)
    refine ht3.mono ?_; rintro e w4 ⟨rfl, hb4⟩
    have hc4 := HNT.out w4 hb4
    have hbx4 := keep_blk hb4 hbx3
    have HS4 : Hid (Sp w w4) := HSP3.out.step hb4
    clear ht3 hbx3 hb4
    go_wp2_with (first | refine wpl_stgd (by go_simp) _ rfl rfl rfl hbx4 ?_)
    refine hc4.mono ?_; rintro e w5 ⟨rfl, hb5⟩
    have HS5 : Hid (Sp w w5) := HS4.out.step hb5
    have haw := awake15_any HS5.out.2
    clear hb5 hc4 hbx4
    go_wp2_with fail
    refine haw.mono ?_; rintro e w7 ⟨rfl, h7⟩
    go_wp2_with fail
    go_ret
    exact ⟨rfl, HS5.out.trans h7⟩
  · have f0 : w2.frozen? ⟨w.heap.size + 1, 16, none⟩ = false := blk_frozen0 hbx2 16
    have c0 : w2.cell? ⟨w.heap.size + 1, 16, none⟩ = some (.int .i64 0) := by rw [blk_cell hbx2]; rfl
    have hbx3 : (w2.setCell ⟨w.heap.size + 1, 16, none⟩ (.int .i64 (-(1 + (k : Int))))).heap[w.heap.size + 1]? = some (.cells #[.int .i64 8, .string ⟨#[]⟩, .string (⟨#[116]⟩ : ByteArray), .string ⟨#[]⟩, .string ⟨#[]⟩, .int .i64 0, .string ⟨#[]⟩, .int .i64 0, .string ⟨#[]⟩, .int .i64 0, .slice none 0 0, .slice none 0 0, .slice none 0 0, .slice (some ⟨w.heap.size, 0, none⟩) 1 1, .int .i64 0, .int .i64 0, .int .i64 (-(1 + (k : Int))), .slice none 0 0] 31 (0, 0)) := by rw [blk_set hbx2 16 _]; rfl
    have hpr3 := blk_setOther hpr2 ⟨w.heap.size + 1, 16, none⟩ (.int .i64 (-(1 + (k : Int)))) (show w.heap.size ≠ w.heap.size + 1 by omega)
    have HB3 : Below w.heap.size w (w2.setCell ⟨w.heap.size + 1, 16, none⟩ (.int .i64 (-(1 + (k : Int))))) := HS2.out.1.setCell (by show w.heap.size ≤ w.heap.size + 1; omega) _
    have hnt := none_tail (P := ⟨{ queX with limit := -(1 + (k : Int)) }, vnil, vnil, vnil, .slice (some ⟨w.heap.size, 0, none⟩) 1 1, vnil⟩) (HG.out.below HB3) (que_wds rfl (rd_vnil _) rfl rfl hpr3) (stok_of (of_decide_eq_true rfl) (of_decide_eq_true rfl) rfl rfl rfl rfl ⟨of_decide_eq_true rfl, by simp [queX, Sx.zero]⟩ rfl queW ⟨of_decide_eq_true rfl, of_decide_eq_true rfl⟩ ⟨of_decide_eq_true rfl, of_decide_eq_true rfl⟩ ⟨by show _ ≤ -(1 + (k : Int)); omega, by show -(1 + (k : Int)) ≤ _; omega⟩) (que_limit (1 + (k : Int)) (by omega))
    obtain ⟨W3, hW3⟩ : ∃ W3, w2.setCell ⟨w.heap.size + 1, 16, none⟩ (.int .i64 (-(1 + (k : Int)))) = W3 := ⟨_, rfl⟩
    rw [hW3] at hbx3 HB3 hnt
    have HNT := Lib.hid hnt.2
    have ht3 := hnt.1
    have HSP3 : Hid (Sp w W3) := ⟨HB3, HG.out.below HB3⟩
    clear hnt HB3
    go_wp2_with (first | refine wpl_stgd (by go_simp) _ rfl rfl rfl hbx3 ?_)
    refine ht3.mono ?_; rintro e w4 ⟨rfl, hb4⟩
    have hc4 := HNT.out w4 hb4
    have hbx4 := keep_blk hb4 hbx3
    have HS4 : Hid (Sp w w4) := HSP3.out.step hb4
    clear ht3 hbx3 hb4
    go_wp2_with (first | refine wpl_stgd (by go_simp) _ rfl rfl rfl hbx4 ?_)
    refine hc4.mono ?_; rintro e w5 ⟨rfl, hb5⟩
    have HS5 : Hid (Sp w w5) := HS4.out.step hb5
    have haw := awake15_any HS5.out.2
    clear hb5 hc4 hbx4
    go_wp2_with fail
    refine haw.mono ?_; rintro e w7 ⟨rfl, h7⟩
    go_wp2_with fail
    go_ret
    exact ⟨rfl, HS5.out.trans h7⟩
  · have f0 : w2.frozen? ⟨w.heap.size + 1, 13, none⟩ = false := blk_frozen0 hbx2 13
    have c0 : w2.cell? ⟨w.heap.size + 1, 13, none⟩ = some (.slice (some ⟨w.heap.size, 0, none⟩) 1 1) := by rw [blk_cell hbx2]; rfl
    have hbx3 : (w2.setCell ⟨w.heap.size + 1, 13, none⟩ (.slice none 0 0)).heap[w.heap.size + 1]? = some (.cells #[.int .i64 8, .string ⟨#[]⟩, .string (⟨#[116]⟩ : ByteArray), .string ⟨#[]⟩, .string ⟨#[]⟩, .int .i64 0, .string ⟨#[]⟩, .int .i64 0, .string ⟨#[]⟩, .int .i64 0, .slice none 0 0, .slice none 0 0, .slice none 0 0, .slice none 0 0, .int .i64 0, .int .i64 0, .int .i64 0, .slice none 0 0] 31 (0, 0)) := by rw [blk_set hbx2 13 _]; rfl
    have hpr3 := blk_setOther hpr2 ⟨w.heap.size + 1, 13, none⟩ (.slice none 0 0) (show w.heap.size ≠ w.heap.size + 1 by omega)
    have HB3 : Below w.heap.size w (w2.setCell ⟨w.heap.size + 1, 13, none⟩ (.slice none 0 0)) := HS2.out.1.setCell (by show w.heap.size ≤ w.heap.size + 1; omega) _
    have hnt := none_tail (P := ⟨{ queX with wher := [] }, vnil, vnil, vnil, vnil, vnil⟩) (HG.out.below HB3) (que_wds0 rfl rfl rfl rfl) (stok_of (of_decide_eq_true rfl) (of_decide_eq_true rfl) rfl rfl rfl rfl ⟨of_decide_eq_true rfl, by simp [queX, Sx.zero]⟩ rfl ⟨of_decide_eq_true rfl, by simp⟩ ⟨of_decide_eq_true rfl, of_decide_eq_true rfl⟩ ⟨of_decide_eq_true rfl, of_decide_eq_true rfl⟩ ⟨of_decide_eq_true rfl, of_decide_eq_true rfl⟩) (que_where)
    obtain ⟨W3, hW3⟩ : ∃ W3, w2.setCell ⟨w.heap.size + 1, 13, none⟩ (.slice none 0 0) = W3 := ⟨_, rfl⟩
    rw [hW3] at hbx3 HB3 hnt
    have HNT := Lib.hid hnt.2
    have ht3 := hnt.1
    have HSP3 : Hid (Sp w W3) := ⟨HB3, HG.out.below HB3⟩
    clear hnt HB3
    go_wp2_with (first | refine wpl_stgd (by go_simp) _ rfl rfl rfl hbx3 ?_)
    refine ht3.mono ?_; rintro e w4 ⟨rfl, hb4⟩
    have hc4 := HNT.out w4 hb4
    have hbx4 := keep_blk hb4 hbx3
    have HS4 : Hid (Sp w w4) := HSP3.out.step hb4
    clear ht3 hbx3 hb4
    go_wp2_with (first | refine wpl_stgd (by go_simp) _ rfl rfl rfl hbx4 ?_)
    refine hc4.mono ?_; rintro e w5 ⟨rfl, hb5⟩
    have HS5 : Hid (Sp w w5) := HS4.out.step hb5
    have haw := awake15_any HS5.out.2
    clear hb5 hc4 hbx4
    go_wp2_with fail
    refine haw.mono ?_; rintro e w7 ⟨rfl, h7⟩
    go_wp2_with fail
    go_ret
    exact ⟨rfl, HS5.out.trans h7⟩
  · have f1 : w2.frozen? ⟨w.heap.size, 1, none⟩ = false := blk_frozen0 hpr2 1
    have f2 : w2.frozen? ⟨w.heap.size, 2, none⟩ = false := blk_frozen0 hpr2 2
    have f3 : w2.frozen? ⟨w.heap.size, 3, none⟩ = false := blk_frozen0 hpr2 3
    have c0 : w2.cell? ⟨w.heap.size, 1, none⟩ = some (.int .i64 1) := by rw [blk_cell hpr2]; rfl
    have c2 : w2.cell? ⟨w.heap.size, 2, none⟩ = some (.string (⟨#[120]⟩ : ByteArray)) := by rw [blk_cell hpr2]; rfl
    have c3 : w2.cell? ⟨w.heap.size, 3, none⟩ = some (.int .i64 0) := by rw [blk_cell hpr2]; rfl
    have c1 : w2.cell? ⟨w.heap.size + 1, 13, none⟩ = some (.slice (some ⟨w.heap.size, 0, none⟩) 1 1) := by rw [blk_cell hbx2]; rfl
    have hpr3 : (((w2.setCell ⟨w.heap.size, 1, none⟩ (.int .i64 (2 + (1 + (k : Int))))).setCell ⟨w.heap.size, 2, none⟩ (.string ⟨#[]⟩)).setCell ⟨w.heap.size, 3, none⟩ (.int .i64 0)).heap[w.heap.size]? = some (.cells #[.string (⟨#[112]⟩ : ByteArray), .int .i64 (2 + (1 + (k : Int))), .string ⟨#[]⟩, .int .i64 0] 61 (0, 0)) := by rw [blk_set (blk_set (blk_set hpr2 1 _) 2 _) 3 _]; rfl
    have hbx3 := blk_setOther (blk_setOther (blk_setOther hbx2 ⟨w.heap.size, 1, none⟩ (.int .i64 (2 + (1 + (k : Int)))) (show w.heap.size + 1 ≠ w.heap.size by omega)) ⟨w.heap.size, 2, none⟩ (.string ⟨#[]⟩) (show w.heap.size + 1 ≠ w.heap.size by omega)) ⟨w.heap.size, 3, none⟩ (.int .i64 0) (show w.heap.size + 1 ≠ w.heap.size by omega)
    have HB3 : Below w.heap.size w (((w2.setCell ⟨w.heap.size, 1, none⟩ (.int .i64 (2 + (1 + (k : Int))))).setCell ⟨w.heap.size, 2, none⟩ (.string ⟨#[]⟩)).setCell ⟨w.heap.size, 3, none⟩ (.int .i64 0)) := ((HS2.out.1.setCell (p := ⟨w.heap.size, 1, none⟩) (Nat.le_refl _) _).setCell (p := ⟨w.heap.size, 2, none⟩) (Nat.le_refl _) _).setCell (p := ⟨w.heap.size, 3, none⟩) (Nat.le_refl _) _
    have hnt := none_tail (P := ⟨{ queX with wher := [⟨(⟨#[112]⟩ : ByteArray), ⟨2 + (1 + (k : Int)), ⟨#[]⟩, 0⟩⟩] }, vnil, vnil, vnil, .slice (some ⟨w.heap.size, 0, none⟩) 1 1, vnil⟩) (HG.out.below HB3) (que_wds rfl (rd_vnil _) rfl rfl hpr3) (stok_of (of_decide_eq_true rfl) (of_decide_eq_true rfl) rfl rfl rfl rfl ⟨of_decide_eq_true rfl, by simp [queX, Sx.zero]⟩ rfl ⟨of_decide_eq_true rfl, fun q hq => by rw [List.mem_singleton.1 hq]; exact ⟨⟨⟨by show _ ≤ 2 + (1 + (k : Int)); omega, by show 2 + (1 + (k : Int)) ≤ _; omega⟩, ⟨of_decide_eq_true rfl, of_decide_eq_true rfl⟩, of_decide_eq_true rfl⟩, of_decide_eq_true rfl⟩⟩ ⟨of_decide_eq_true rfl, of_decide_eq_true rfl⟩ ⟨of_decide_eq_true rfl, of_decide_eq_true rfl⟩ ⟨of_decide_eq_true rfl, of_decide_eq_true rfl⟩) (que_type (1 + (k : Int)) (by omega) _ _)
    obtain ⟨W3, hW3⟩ : ∃ W3, (((w2.setCell ⟨w.heap.size, 1, none⟩ (.int .i64 (2 + (1 + (k : Int))))).setCell ⟨w.heap.size, 2, none⟩ (.string ⟨#[]⟩)).setCell ⟨w.heap.size, 3, none⟩ (.int .i64 0)) = W3 := ⟨_, rfl⟩
    rw [hW3] at hbx3 HB3 hnt
    clear hpr3
    have HNT := Lib.hid hnt.2
    have ht3 := hnt.1
    have HSP3 : Hid (Sp w W3) := ⟨HB3, HG.out.below HB3⟩
    clear hnt HB3
    go_wp2_with (first | refine wpl_stgd (by go_simp) _ rfl rfl rfl hbx3 ?_)
    refine ht3.mono ?_; rintro e w4 ⟨rfl, hb4⟩
    have hc4 := HNT.out w4 hb4
    have hbx4 := keep_blk hb4 hbx3
    have HS4 : Hid (Sp w w4) := HSP3.out.step hb4
    clear ht3 hbx3 hb4
    go_wp2_with (first | refine wpl_stgd (by go_simp) _ rfl rfl rfl hbx4 ?_)
    refine hc4.mono ?_; rintro e w5 ⟨rfl, hb5⟩
    have HS5 : Hid (Sp w w5) := HS4.out.step hb5
    have haw := awake15_any HS5.out.2
    clear hb5 hc4 hbx4
    go_wp2_with fail
    refine haw.mono ?_; rintro e w7 ⟨rfl, h7⟩
    go_wp2_with fail
    go_ret
    exact ⟨rfl, HS5.out.trans h7⟩
  · have hba := alloc_blk hbx2 (.cells #[.string (⟨#[97]⟩ : ByteArray), .string (⟨#[97]⟩ : ByteArray)] 9)
    have hpa := alloc_blk hpr2 (.cells #[.string (⟨#[97]⟩ : ByteArray), .string (⟨#[97]⟩ : ByteArray)] 9)
    have hne : w2.heap.size ≠ w.heap.size + 1 := by have := blk_lt hbx2; omega
    have f0 : (w2.alloc (.cells #[.string (⟨#[97]⟩ : ByteArray), .string (⟨#[97]⟩ : ByteArray)] 9)).frozen? ⟨w.heap.size + 1, 11, none⟩ = false := blk_frozen0 hba 11
    have c0 : (w2.alloc (.cells #[.string (⟨#[97]⟩ : ByteArray), .string (⟨#[97]⟩ : ByteArray)] 9)).cell? ⟨w.heap.size + 1, 11, none⟩ = some (.slice none 0 0) := by rw [blk_cell hba]; rfl
    have hbx3 : ((w2.alloc (.cells #[.string (⟨#[97]⟩ : ByteArray), .string (⟨#[97]⟩ : ByteArray)] 9)).setCell ⟨w.heap.size + 1, 11, none⟩ (.slice (some ⟨w2.heap.size, 0, none⟩) 2 2)).heap[w.heap.size + 1]? = some (.cells #[.int .i64 8, .string ⟨#[]⟩, .string (⟨#[116]⟩ : ByteArray), .string ⟨#[]⟩, .string ⟨#[]⟩, .int .i64 0, .string ⟨#[]⟩, .int .i64 0, .string ⟨#[]⟩, .int .i64 0, .slice none 0 0, .slice (some ⟨w2.heap.size, 0, none⟩) 2 2, .slice none 0 0, .slice (some ⟨w.heap.size, 0, none⟩) 1 1, .int .i64 0, .int .i64 0, .int .i64 0, .slice none 0 0] 31 (0, 0)) := by rw [blk_set hba 11 _]; rfl
    have hpr3 := blk_setOther hpa ⟨w.heap.size + 1, 11, none⟩ (.slice (some ⟨w2.heap.size, 0, none⟩) 2 2) (show w.heap.size ≠ w.heap.size + 1 by omega)
    have hla := blk_setOther (blk_new w2 (.cells #[.string (⟨#[97]⟩ : ByteArray), .string (⟨#[97]⟩ : ByteArray)] 9)) ⟨w.heap.size + 1, 11, none⟩ (.slice (some ⟨w2.heap.size, 0, none⟩) 2 2) hne
    have HB3 : Below w.heap.size w ((w2.alloc (.cells #[.string (⟨#[97]⟩ : ByteArray), .string (⟨#[97]⟩ : ByteArray)] 9)).setCell ⟨w.heap.size + 1, 11, none⟩ (.slice (some ⟨w2.heap.size, 0, none⟩) 2 2)) := (HS2.out.1.alloc (by have := blk_lt hpr2; omega) _).setCell (p := ⟨w.heap.size + 1, 11, none⟩) (by show w.heap.size ≤ w.heap.size + 1; omega) _
    have hnt := none_tail (P := ⟨{ queX with cols := [(⟨#[97]⟩ : ByteArray), (⟨#[97]⟩ : ByteArray)] }, vnil, .slice (some ⟨w2.heap.size, 0, none⟩) 2 2, vnil, .slice (some ⟨w.heap.size, 0, none⟩) 1 1, vnil⟩) (HG.out.below HB3) (que_wds rfl ⟨_, _, rfl, fun _ => ⟨w2.heap.size, 0, rfl, fun k v hk => by rw [Nat.zero_add, blk_cell hla]; simpa using hk⟩⟩ rfl rfl hpr3) (stok_of (of_decide_eq_true rfl) (of_decide_eq_true rfl) rfl rfl rfl rfl ⟨of_decide_eq_true rfl, fun q hq => by rcases List.mem_cons.1 hq with rfl | hq; exact of_decide_eq_true rfl; rw [List.mem_singleton.1 hq]; exact of_decide_eq_true rfl⟩ rfl queW ⟨of_decide_eq_true rfl, of_decide_eq_true rfl⟩ ⟨of_decide_eq_true rfl, of_decide_eq_true rfl⟩ ⟨of_decide_eq_true rfl, of_decide_eq_true rfl⟩) que_cols
    obtain ⟨W0, hW0⟩ : ∃ W0, w2.alloc (.cells #[.string (⟨#[97]⟩ : ByteArray), .string (⟨#[97]⟩ : ByteArray)] 9) = W0 := ⟨_, rfl⟩
    rw [hW0] at hbx3 HB3 hnt f0 c0
    obtain ⟨W3, hW3⟩ : ∃ W3, W0.setCell ⟨w.heap.size + 1, 11, none⟩ (.slice (some ⟨w2.heap.size, 0, none⟩) 2 2) = W3 := ⟨_, rfl⟩
    rw [hW3] at hbx3 HB3 hnt
    clear hba hpa hne hpr3 hla
    have HNT := Lib.hid hnt.2
    have ht3 := hnt.1
    have HSP3 : Hid (Sp w W3) := ⟨HB3, HG.out.below HB3⟩
    clear hnt HB3
    go_wp2_with (first | refine wpl_stgd (by go_simp) _ rfl rfl rfl hbx3 ?_)
    refine ht3.mono ?_; rintro e w4 ⟨rfl, hb4⟩
    have hc4 := HNT.out w4 hb4
    have hbx4 := keep_blk hb4 hbx3
    have HS4 : Hid (Sp w w4) := HSP3.out.step hb4
    clear ht3 hbx3 hb4
    go_wp2_with (first | refine wpl_stgd (by go_simp) _ rfl rfl rfl hbx4 ?_)
    refine hc4.mono ?_; rintro e w5 ⟨rfl, hb5⟩
    have HS5 : Hid (Sp w w5) := HS4.out.step hb5
    have haw := awake15_any HS5.out.2
    clear hb5 hc4 hbx4
    go_wp2_with fail
    refine haw.mono ?_; rintro e w7 ⟨rfl, h7⟩
    go_wp2_with fail
    go_ret
    exact ⟨rfl, HS5.out.trans h7⟩
  · have f0 : w2.frozen? ⟨w.heap.size + 1, 14, none⟩ = false := blk_frozen0 hbx2 14
    have c0 : w2.cell? ⟨w.heap.size + 1, 14, none⟩ = some (.int .i64 0) := by rw [blk_cell hbx2]; rfl
    have hbx3 : (w2.setCell ⟨w.heap.size + 1, 14, none⟩ (.int .i64 (1 + (k : Int)))).heap[w.heap.size + 1]? = some (.cells #[.int .i64 8, .string ⟨#[]⟩, .string (⟨#[116]⟩ : ByteArray), .string ⟨#[]⟩, .string ⟨#[]⟩, .int .i64 0, .string ⟨#[]⟩, .int .i64 0, .string ⟨#[]⟩, .int .i64 0, .slice none 0 0, .slice none 0 0, .slice none 0 0, .slice (some ⟨w.heap.size, 0, none⟩) 1 1, .int .i64 (1 + (k : Int)), .int .i64 0, .int .i64 0, .slice none 0 0] 31 (0, 0)) := by rw [blk_set hbx2 14 _]; rfl
    have hpr3 := blk_setOther hpr2 ⟨w.heap.size + 1, 14, none⟩ (.int .i64 (1 + (k : Int))) (show w.heap.size ≠ w.heap.size + 1 by omega)
    have HB3 : Below w.heap.size w (w2.setCell ⟨w.heap.size + 1, 14, none⟩ (.int .i64 (1 + (k : Int)))) := HS2.out.1.setCell (by show w.heap.size ≤ w.heap.size + 1; omega) _
    have hnt := none_tail (P := ⟨{ queX with stamp := 1 + (k : Int) }, vnil, vnil, vnil, .slice (some ⟨w.heap.size, 0, none⟩) 1 1, vnil⟩) (HG.out.below HB3) (que_wds rfl (rd_vnil _) rfl rfl hpr3) (stok_of (of_decide_eq_true rfl) (of_decide_eq_true rfl) rfl rfl rfl rfl ⟨of_decide_eq_true rfl, by simp [queX, Sx.zero]⟩ rfl queW ⟨by show _ ≤ 1 + (k : Int); omega, by show 1 + (k : Int) ≤ _; omega⟩ ⟨of_decide_eq_true rfl, of_decide_eq_true rfl⟩ ⟨of_decide_eq_true rfl, of_decide_eq_true rfl⟩) (que_stamp (1 + (k : Int)) (by omega))
    obtain ⟨W3, hW3⟩ : ∃ W3, w2.setCell ⟨w.heap.size + 1, 14, none⟩ (.int .i64 (1 + (k : Int))) = W3 := ⟨_, rfl⟩
    rw [hW3] at hbx3 HB3 hnt
    have HNT := Lib.hid hnt.2
    have ht3 := hnt.1
    have HSP3 : Hid (Sp w W3) := ⟨HB3, HG.out.below HB3⟩
    clear hnt HB3
    go_wp2_with (first | refine wpl_stgd (by go_simp) _ rfl rfl rfl hbx3 ?_)
    refine ht3.mono ?_; rintro e w4 ⟨rfl, hb4⟩
    have hc4 := HNT.out w4 hb4
    have hbx4 := keep_blk hb4 hbx3
    have HS4 : Hid (Sp w w4) := HSP3.out.step hb4
    clear ht3 hbx3 hb4
    go_wp2_with (first | refine wpl_stgd (by go_simp) _ rfl rfl rfl hbx4 ?_)
    refine hc4.mono ?_; rintro e w5 ⟨rfl, hb5⟩
    have HS5 : Hid (Sp w w5) := HS4.out.step hb5
    have haw := awake15_any HS5.out.2
    clear hb5 hc4 hbx4
    go_wp2_with fail
    refine haw.mono ?_; rintro e w7 ⟨rfl, h7⟩
    go_wp2_with fail
    go_ret
    exact ⟨rfl, HS5.out.trans h7⟩
  · have f0 : w2.frozen? ⟨w.heap.size + 1, 1, none⟩ = false := blk_frozen0 hbx2 1
    have c0 : w2.cell? ⟨w.heap.size + 1, 1, none⟩ = some (.string ⟨#[]⟩) := by rw [blk_cell hbx2]; rfl
    have hbx3 : (w2.setCell ⟨w.heap.size + 1, 1, none⟩ (.string (⟨#[110]⟩ : ByteArray))).heap[w.heap.size + 1]? = some (.cells #[.int .i64 8, .string (⟨#[110]⟩ : ByteArray), .string (⟨#[116]⟩ : ByteArray), .string ⟨#[]⟩, .string ⟨#[]⟩, .int .i64 0, .string ⟨#[]⟩, .int .i64 0, .string ⟨#[]⟩, .int .i64 0, .slice none 0 0, .slice none 0 0, .slice none 0 0, .slice (some ⟨w.heap.size, 0, none⟩) 1 1, .int .i64 0, .int .i64 0, .int .i64 0, .slice none 0 0] 31 (0, 0)) := by rw [blk_set hbx2 1 _]; rfl
    have hpr3 := blk_setOther hpr2 ⟨w.heap.size + 1, 1, none⟩ (.string (⟨#[110]⟩ : ByteArray)) (show w.heap.size ≠ w.heap.size + 1 by omega)
    have HB3 : Below w.heap.size w (w2.setCell ⟨w.heap.size + 1, 1, none⟩ (.string (⟨#[110]⟩ : ByteArray))) := HS2.out.1.setCell (by show w.heap.size ≤ w.heap.size + 1; omega) _
    have hnt := none_tail (P := ⟨{ queX with name := (⟨#[110]⟩ : ByteArray) }, vnil, vnil, vnil, .slice (some ⟨w.heap.size, 0, none⟩) 1 1, vnil⟩) (HG.out.below HB3) (que_wds rfl (rd_vnil _) rfl rfl hpr3) (stok_of (of_decide_eq_true rfl) (of_decide_eq_true rfl) rfl rfl rfl rfl ⟨of_decide_eq_true rfl, by simp [queX, Sx.zero]⟩ rfl queW ⟨of_decide_eq_true rfl, of_decide_eq_true rfl⟩ ⟨of_decide_eq_true rfl, of_decide_eq_true rfl⟩ ⟨of_decide_eq_true rfl, of_decide_eq_true rfl⟩) (que_name)
    obtain ⟨W3, hW3⟩ : ∃ W3, w2.setCell ⟨w.heap.size + 1, 1, none⟩ (.string (⟨#[110]⟩ : ByteArray)) = W3 := ⟨_, rfl⟩
    rw [hW3] at hbx3 HB3 hnt
    have HNT := Lib.hid hnt.2
    have ht3 := hnt.1
    have HSP3 : Hid (Sp w W3) := ⟨HB3, HG.out.below HB3⟩
    clear hnt HB3
    go_wp2_with (first | refine wpl_stgd (by go_simp) _ rfl rfl rfl hbx3 ?_)
    refine ht3.mono ?_; rintro e w4 ⟨rfl, hb4⟩
    have hc4 := HNT.out w4 hb4
    have hbx4 := keep_blk hb4 hbx3
    have HS4 : Hid (Sp w w4) := HSP3.out.step hb4
    clear ht3 hbx3 hb4
    go_wp2_with (first | refine wpl_stgd (by go_simp) _ rfl rfl rfl hbx4 ?_)
    refine hc4.mono ?_; rintro e w5 ⟨rfl, hb5⟩
    have HS5 : Hid (Sp w w5) := HS4.out.step hb5
    have haw := awake15_any HS5.out.2
    clear hb5 hc4 hbx4
    go_wp2_with fail
    refine haw.mono ?_; rintro e w7 ⟨rfl, h7⟩
    go_wp2_with fail
    go_ret
    exact ⟨rfl, HS5.out.trans h7⟩
  · have f0 : w2.frozen? ⟨w.heap.size, 2, none⟩ = false := blk_frozen0 hpr2 2
    have c0 : w2.cell? ⟨w.heap.size, 2, none⟩ = some (.string (⟨#[120]⟩ : ByteArray)) := by rw [blk_cell hpr2]; rfl
    have c1 : w2.cell? ⟨w.heap.size + 1, 13, none⟩ = some (.slice (some ⟨w.heap.size, 0, none⟩) 1 1) := by rw [blk_cell hbx2]; rfl
    have hpr3 : (w2.setCell ⟨w.heap.size, 2, none⟩ (.string ⟨#[255]⟩)).heap[w.heap.size]? = some (.cells #[.string (⟨#[112]⟩ : ByteArray), .int .i64 1, .string ⟨#[255]⟩, .int .i64 0] 61 (0, 0)) := by rw [blk_set hpr2 2 _]; rfl
    have hbx3 := blk_setOther hbx2 ⟨w.heap.size, 2, none⟩ (.string ⟨#[255]⟩) (show w.heap.size + 1 ≠ w.heap.size by omega)
    have HB3 : Below w.heap.size w (w2.setCell ⟨w.heap.size, 2, none⟩ (.string ⟨#[255]⟩)) := HS2.out.1.setCell (Nat.le_refl _) _
    have hnt := none_tail (P := ⟨{ queX with wher := [⟨(⟨#[112]⟩ : ByteArray), ⟨1, ⟨#[255]⟩, 0⟩⟩] }, vnil, vnil, vnil, .slice (some ⟨w.heap.size, 0, none⟩) 1 1, vnil⟩) (HG.out.below HB3) (que_wds rfl (rd_vnil _) rfl rfl hpr3) (stok_of (of_decide_eq_true rfl) (of_decide_eq_true rfl) rfl rfl rfl rfl ⟨of_decide_eq_true rfl, by simp [queX, Sx.zero]⟩ rfl ⟨of_decide_eq_true rfl, fun q hq => by rw [List.mem_singleton.1 hq]; exact ⟨⟨⟨of_decide_eq_true rfl, of_decide_eq_true rfl⟩, ⟨of_decide_eq_true rfl, of_decide_eq_true rfl⟩, of_decide_eq_true rfl⟩, of_decide_eq_true rfl⟩⟩ ⟨of_decide_eq_true rfl, of_decide_eq_true rfl⟩ ⟨of_decide_eq_true rfl, of_decide_eq_true rfl⟩ ⟨of_decide_eq_true rfl, of_decide_eq_true rfl⟩) que_bad
    obtain ⟨W3, hW3⟩ : ∃ W3, w2.setCell ⟨w.heap.size, 2, none⟩ (.string ⟨#[255]⟩) = W3 := ⟨_, rfl⟩
    rw [hW3] at hbx3 HB3 hnt
    have HNT := Lib.hid hnt.2
    have ht3 := hnt.1
    have HSP3 : Hid (Sp w W3) := ⟨HB3, HG.out.below HB3⟩
    clear hnt HB3
    go_wp2_with (first | refine wpl_stgd (by go_simp) _ rfl rfl rfl hbx3 ?_)
    refine ht3.mono ?_; rintro e w4 ⟨rfl, hb4⟩
    have hc4 := HNT.out w4 hb4
    have hbx4 := keep_blk hb4 hbx3
    have HS4 : Hid (Sp w w4) := HSP3.out.step hb4
    clear ht3 hbx3 hb4
    go_wp2_with (first | refine wpl_stgd (by go_simp) _ rfl rfl rfl hbx4 ?_)
    refine hc4.mono ?_; rintro e w5 ⟨rfl, hb5⟩
    have HS5 : Hid (Sp w w5) := HS4.out.step hb5
    have haw := awake15_any HS5.out.2
    clear hb5 hc4 hbx4
    go_wp2_with fail
    refine haw.mono ?_; rintro e w7 ⟨rfl, h7⟩
    go_wp2_with fail
    go_ret
    exact ⟨rfl, HS5.out.trans h7⟩
end Go.Proofs.YtfbgdjcnlnfoaaaGreatDoor

namespace Go.Proofs.YtfbgdjcnlnfoaaaGreatDoor
open Go.RowKit
open Cle

set_option maxHeartbeats 400000 in
theorem place_big (v n : Int) (w : World) (hn : 1 ≤ n) (hn2 : n ≤ 1000000000000000000) (hv0 : -9223372036854775808 ≤ v) (hv1 : v ≤ 9223372036854775807) :
    Calls Tryz.prog 23 #[.int .i64 v, .int .i64 n] w fun e w' => e = .returned (.int .i64 (v % n)) ∧ w = w' := by
  have hp := Lib.hid (place_tmod v n hn)
  by_cases h0 : 0 ≤ v
  · have h2 := Int.emod_nonneg v (show n ≠ 0 by omega)
    have h3 := Int.emod_lt_of_pos v (show 0 < n by omega)
    clear hv0
    go_enter Tryz.func23, Tryz.ntmps23
    go_wp2_with fail
    go_ret
    exact ⟨rfl, rfl⟩
  · have hm : v.tmod n ≤ 0 := by have := Int.tmod_nonneg n (show 0 ≤ -v by omega); rw [Int.neg_tmod] at this; omega
    have hm2 : -n < v.tmod n := by
      have := Int.tmod_lt_of_pos (-v) (show 0 < n by omega); rw [Int.neg_tmod] at this; omega
    clear hv0 hv1
    by_cases hz : v.tmod n < 0
    · have HE : Hid (v.tmod n + n = v % n) := by have := hp.out; rw [if_pos hz] at this; exact this
      go_enter Tryz.func23, Tryz.ntmps23
      go_wp2_with fail
      go_ret
      exact ⟨ret_int HE.out, rfl⟩
    · have HE : Hid (v.tmod n = v % n) := by have := hp.out; rw [if_neg hz] at this; exact this
      go_enter Tryz.func23, Tryz.ntmps23
      go_wp2_with fail
      go_ret
      exact ⟨ret_int HE.out, rfl⟩
theorem build_cha (k : Int) (o : ByteArray) (st : Int) (a b : Option Addr) (n c n2 c2 : Nat) (w : World) : (Instr.build 31 #[(0, .int .i64 k), (2, .string o), (8, .int .i64 st), (6, .slice a n c), (7, .slice b n2 c2)]).run Tryz.prog w = .ok (.agg #[.int .i64 k, .string ⟨#[]⟩, .string o, .string ⟨#[]⟩, .string ⟨#[]⟩, .int .i64 0, .string ⟨#[]⟩, .int .i64 0, .string ⟨#[]⟩, .int .i64 0, .slice none 0 0, .slice none 0 0, .slice a n c, .slice b n2 c2, .int .i64 st, .int .i64 0, .int .i64 0, .slice none 0 0]) w := by kernel_rfl
theorem cha_ok (s : ByteArray) (v st : Int) (hs : s.size ≤ 60) (hv : I64 v) (hst : I64 st) : StOK (chaX s v st) := by
  refine ⟨of_decide_eq_true rfl, of_decide_eq_true rfl, of_decide_eq_true rfl, of_decide_eq_true rfl, of_decide_eq_true rfl, ⟨of_decide_eq_true rfl, by simp [chaX, Sx.zero]⟩, ⟨of_decide_eq_true rfl, by simp [chaX, Sx.zero]⟩, ⟨of_decide_eq_true rfl, fun q hq => ?_⟩, ⟨of_decide_eq_true rfl, fun q hq => ?_⟩, of_decide_eq_true rfl, hst, ⟨of_decide_eq_true rfl, of_decide_eq_true rfl⟩, ⟨of_decide_eq_true rfl, of_decide_eq_true rfl⟩⟩
  · rw [List.mem_singleton.1 hq]
    exact ⟨⟨⟨of_decide_eq_true rfl, of_decide_eq_true rfl⟩, ⟨of_decide_eq_true rfl, of_decide_eq_true rfl⟩, by show s.size ≤ 1000000; omega⟩, of_decide_eq_true rfl⟩
  · rcases List.mem_cons.1 hq with rfl | hq
    · exact ⟨⟨⟨of_decide_eq_true rfl, of_decide_eq_true rfl⟩, hv, of_decide_eq_true rfl⟩, of_decide_eq_true rfl⟩
    · rw [List.mem_singleton.1 hq]
      exact ⟨⟨⟨of_decide_eq_true rfl, of_decide_eq_true rfl⟩, ⟨of_decide_eq_true rfl, of_decide_eq_true rfl⟩, of_decide_eq_true rfl⟩, of_decide_eq_true rfl⟩
theorem cha_wds {W : World} {s : ByteArray} {v st : Int} {ga gb : Nat} {T T2 : TypeId} (h1 : W.heap[ga]? = some (.cells #[.string (⟨#[97]⟩ : ByteArray), .int .i64 1, .string s, .int .i64 0] T (0, 0))) (h2 : W.heap[gb]? = some (.cells #[.string (⟨#[112]⟩ : ByteArray), .int .i64 2, .string ⟨#[]⟩, .int .i64 v, .string (⟨#[107]⟩ : ByteArray), .int .i64 1, .string (⟨#[120]⟩ : ByteArray), .int .i64 0] T2 (0, 0))) :
    WdS W ⟨chaX s v st, vnil, vnil, .slice (some ⟨ga, 0, none⟩) 1 1, .slice (some ⟨gb, 0, none⟩) 2 2, vnil⟩ [] := by
  refine ⟨⟨rd_vnil W, rd_vnil W, ⟨_, _, rfl, fun _ => ⟨ga, 0, rfl, fun k x hk => ?_⟩⟩, ⟨_, _, rfl, fun _ => ⟨gb, 0, rfl, fun k x hk => ?_⟩⟩⟩, rd_vnil W, by simp⟩
  · rw [Nat.zero_add, blk_cell h1]
    simpa [flatR, prCells, chaX] using hk
  · rw [Nat.zero_add, blk_cell h2]
    simpa [flatR, prCells, chaX] using hk
theorem pre7 {T r : ByteArray} (h : T = (⟨#[85, 80, 68, 65, 84, 69, 32]⟩ : ByteArray) ++ r) (hr : 0 < r.size) : T.extract 0 7 = (⟨#[85, 80, 68, 65, 84, 69, 32]⟩ : ByteArray) ∧ 7 < T.size := by
  subst h
  refine ⟨?_, by rw [ByteArray.size_append]; show 7 < 7 + _; omega⟩
  apply ByteArray.ext
  simp
set_option maxRecDepth 100000 in
set_option maxHeartbeats 8000000 in
theorem printTexts_law (s : ByteArray) (n stamp : Int) (w : World) (hG : Gp w) (hn0 : -9223372036854775808 ≤ n) (hn1 : n ≤ 9223372036854775807) (hm0 : -9223372036854775808 ≤ stamp) (hm1 : stamp ≤ 9223372036854775807) :
    Calls Tryz.prog 12 #[.string s, .int .i64 n, .int .i64 stamp] w fun e w' => e = .returned (.bool true) ∧ Sp w w' := by
  have hpn := fun w => place_big n 2199023255553 w (by omega) (by omega) hn0 hn1
  obtain ⟨v, hv⟩ : ∃ v : Nat, n % 2199023255553 = v := ⟨(n % 2199023255553).toNat, by omega⟩
  have hvl : v < 2199023255553 := by omega
  rw [hv] at hpn
  have hpm := fun w => place_big stamp 1099511627776 w (by omega) (by omega) hm0 hm1
  obtain ⟨m, hm⟩ : ∃ m : Nat, stamp % 1099511627776 = m := ⟨(stamp % 1099511627776).toNat, by omega⟩
  have hml : m < 1099511627776 := by omega
  rw [hm] at hpm
  have HG := Lib.hid hG
  have hbq := build_cha
  clear hv hm hn0 hn1 hm0 hm1 hG
  have hsz := sz_alloc w (.cells #[.string (⟨#[97]⟩ : ByteArray), .int .i64 1, .string s, .int .i64 0] 61)
  have hsz2 : ((w.alloc (.cells #[.string (⟨#[97]⟩ : ByteArray), .int .i64 1, .string s, .int .i64 0] 61)).alloc (.cells #[.string (⟨#[112]⟩ : ByteArray), .int .i64 2, .string ⟨#[]⟩, .int .i64 ((v : Int) - 1099511627776), .string (⟨#[107]⟩ : ByteArray), .int .i64 1, .string (⟨#[120]⟩ : ByteArray), .int .i64 0] 61)).heap.size = w.heap.size + 1 + 1 := by rw [sz_alloc, sz_alloc]
  have hone : (#[.int .i64 6, .string ⟨#[]⟩, .string (⟨#[116]⟩ : ByteArray), .string ⟨#[]⟩, .string ⟨#[]⟩, .int .i64 0, .string ⟨#[]⟩, .int .i64 0, .string ⟨#[]⟩, .int .i64 0, .slice none 0 0, .slice none 0 0, .slice (some ⟨w.heap.size, 0, none⟩) 1 1, .slice (some ⟨w.heap.size + 1, 0, none⟩) 2 2, .int .i64 (1 + (m : Int)), .int .i64 0, .int .i64 0, .slice none 0 0] : Array Value).toList.all (·.oneCell') = true := rfl
  have hS1 := (((Sp.refl HG.out).alloc (.cells #[.string (⟨#[97]⟩ : ByteArray), .int .i64 1, .string s, .int .i64 0] 61)).alloc (.cells #[.string (⟨#[112]⟩ : ByteArray), .int .i64 2, .string ⟨#[]⟩, .int .i64 ((v : Int) - 1099511627776), .string (⟨#[107]⟩ : ByteArray), .int .i64 1, .string (⟨#[120]⟩ : ByteArray), .int .i64 0] 61)).alloc (.cells #[.int .i64 6, .string ⟨#[]⟩, .string (⟨#[116]⟩ : ByteArray), .string ⟨#[]⟩, .string ⟨#[]⟩, .int .i64 0, .string ⟨#[]⟩, .int .i64 0, .string ⟨#[]⟩, .int .i64 0, .slice none 0 0, .slice none 0 0, .slice (some ⟨w.heap.size, 0, none⟩) 1 1, .slice (some ⟨w.heap.size + 1, 0, none⟩) 2 2, .int .i64 (1 + (m : Int)), .int .i64 0, .int .i64 0, .slice none 0 0] 31)
  have hpa := blk_alloc (blk_alloc (blk_new w (.cells #[.string (⟨#[97]⟩ : ByteArray), .int .i64 1, .string s, .int .i64 0] 61)) (.cells #[.string (⟨#[112]⟩ : ByteArray), .int .i64 2, .string ⟨#[]⟩, .int .i64 ((v : Int) - 1099511627776), .string (⟨#[107]⟩ : ByteArray), .int .i64 1, .string (⟨#[120]⟩ : ByteArray), .int .i64 0] 61)) (.cells #[.int .i64 6, .string ⟨#[]⟩, .string (⟨#[116]⟩ : ByteArray), .string ⟨#[]⟩, .string ⟨#[]⟩, .int .i64 0, .string ⟨#[]⟩, .int .i64 0, .string ⟨#[]⟩, .int .i64 0, .slice none 0 0, .slice none 0 0, .slice (some ⟨w.heap.size, 0, none⟩) 1 1, .slice (some ⟨w.heap.size + 1, 0, none⟩) 2 2, .int .i64 (1 + (m : Int)), .int .i64 0, .int .i64 0, .slice none 0 0] 31)
  have hpb := blk_alloc (blk_new (w.alloc (.cells #[.string (⟨#[97]⟩ : ByteArray), .int .i64 1, .string s, .int .i64 0] 61)) (.cells #[.string (⟨#[112]⟩ : ByteArray), .int .i64 2, .string ⟨#[]⟩, .int .i64 ((v : Int) - 1099511627776), .string (⟨#[107]⟩ : ByteArray), .int .i64 1, .string (⟨#[120]⟩ : ByteArray), .int .i64 0] 61)) (.cells #[.int .i64 6, .string ⟨#[]⟩, .string (⟨#[116]⟩ : ByteArray), .string ⟨#[]⟩, .string ⟨#[]⟩, .int .i64 0, .string ⟨#[]⟩, .int .i64 0, .string ⟨#[]⟩, .int .i64 0, .slice none 0 0, .slice none 0 0, .slice (some ⟨w.heap.size, 0, none⟩) 1 1, .slice (some ⟨w.heap.size + 1, 0, none⟩) 2 2, .int .i64 (1 + (m : Int)), .int .i64 0, .int .i64 0, .slice none 0 0] 31)
  have hbx := blk_new ((w.alloc (.cells #[.string (⟨#[97]⟩ : ByteArray), .int .i64 1, .string s, .int .i64 0] 61)).alloc (.cells #[.string (⟨#[112]⟩ : ByteArray), .int .i64 2, .string ⟨#[]⟩, .int .i64 ((v : Int) - 1099511627776), .string (⟨#[107]⟩ : ByteArray), .int .i64 1, .string (⟨#[120]⟩ : ByteArray), .int .i64 0] 61)) (.cells #[.int .i64 6, .string ⟨#[]⟩, .string (⟨#[116]⟩ : ByteArray), .string ⟨#[]⟩, .string ⟨#[]⟩, .int .i64 0, .string ⟨#[]⟩, .int .i64 0, .string ⟨#[]⟩, .int .i64 0, .slice none 0 0, .slice none 0 0, .slice (some ⟨w.heap.size, 0, none⟩) 1 1, .slice (some ⟨w.heap.size + 1, 0, none⟩) 2 2, .int .i64 (1 + (m : Int)), .int .i64 0, .int .i64 0, .slice none 0 0] 31)
  rw [hsz] at hpb
  rw [hsz2] at hbx
  have hbx0 := hbx
  obtain ⟨W, hW⟩ : ∃ W, ((w.alloc (.cells #[.string (⟨#[97]⟩ : ByteArray), .int .i64 1, .string s, .int .i64 0] 61)).alloc (.cells #[.string (⟨#[112]⟩ : ByteArray), .int .i64 2, .string ⟨#[]⟩, .int .i64 ((v : Int) - 1099511627776), .string (⟨#[107]⟩ : ByteArray), .int .i64 1, .string (⟨#[120]⟩ : ByteArray), .int .i64 0] 61)).alloc (.cells #[.int .i64 6, .string ⟨#[]⟩, .string (⟨#[116]⟩ : ByteArray), .string ⟨#[]⟩, .string ⟨#[]⟩, .int .i64 0, .string ⟨#[]⟩, .int .i64 0, .string ⟨#[]⟩, .int .i64 0, .slice none 0 0, .slice none 0 0, .slice (some ⟨w.heap.size, 0, none⟩) 1 1, .slice (some ⟨w.heap.size + 1, 0, none⟩) 2 2, .int .i64 (1 + (m : Int)), .int .i64 0, .int .i64 0, .slice none 0 0] 31) = W := ⟨_, rfl⟩
  rw [hW] at hS1 hpa hpb hbx
  have HS1 := Lib.hid hS1
  have hwd : WdS W ⟨chaX s ((v : Int) - 1099511627776) (1 + (m : Int)), vnil, vnil, .slice (some ⟨w.heap.size, 0, none⟩) 1 1, .slice (some ⟨w.heap.size + 1, 0, none⟩) 2 2, vnil⟩ [] := cha_wds hpa hpb
  go_enter Tryz.func12, Tryz.ntmps12
  go_wp2_with fail
  refine (hpn _).mono ?_; rintro e w1 ⟨rfl, rfl⟩
  go_wp2_with fail
  refine (hpm _).mono ?_; rintro e w1 ⟨rfl, rfl⟩
  clear hpn hpm
  by_cases h60 : 60 < s.size
  · have q1 : (60 : Int) < (s.size : Int) := by omega
    have haw := awake15_any HS1.out.2
    clear hwd hpa hpb hS1 h60
    go_wp2_with (first | refine wpl_sto2 rfl _ _ rfl hsz2.symm rfl rfl rfl hone ?_)
    refine haw.mono ?_; rintro e w7 ⟨rfl, h7⟩
    go_wp2_with fail
    go_ret
    exact ⟨rfl, HS1.out.trans h7⟩
  · have q1 : ¬ (60 : Int) < (s.size : Int) := by omega
    have hok : SzS ⟨chaX s ((v : Int) - 1099511627776) (1 + (m : Int)), vnil, vnil, .slice (some ⟨w.heap.size, 0, none⟩) 1 1, .slice (some ⟨w.heap.size + 1, 0, none⟩) 2 2, vnil⟩ [] := ⟨cha_ok s _ _ (by omega) ⟨by omega, by omega⟩ ⟨by omega, by omega⟩, by simp⟩
    have HWD := Lib.hid hwd
    have HOK := Lib.hid hok
    by_cases hmay : May ⟨chaX s ((v : Int) - 1099511627776) (1 + (m : Int)), []⟩
    · have ht := ptext_yes hS1.2 hwd hok hmay
      obtain ⟨r, hr1, hr2⟩ := cha_text s ((v : Int) - 1099511627776) (1 + (m : Int))
      have hpp := may_parse hmay
      obtain ⟨t, htt⟩ : ∃ t, textS ⟨chaX s ((v : Int) - 1099511627776) (1 + (m : Int)), []⟩ = t := ⟨_, rfl⟩
      rw [htt] at hr1 hpp
      rw [show textS ⟨Pw.x ⟨chaX s ((v : Int) - 1099511627776) (1 + (m : Int)), vnil, vnil, .slice (some ⟨w.heap.size, 0, none⟩) 1 1, .slice (some ⟨w.heap.size + 1, 0, none⟩) 2 2, vnil⟩, List.map Pw.x []⟩ = t from htt] at ht
      obtain ⟨g1, g2⟩ := pre7 hr1 hr2
      have HMAY := Lib.hid hmay
      have HPP := Lib.hid hpp
      have HBX := Lib.hid hbx
      clear hS1 hpa hpb hwd hok htt hr1 hr2 hmay hpp h60
      go_wp2_with (first | refine wpl_sto2 rfl _ _ rfl hsz2.symm rfl rfl rfl hone ?_ | refine wpl_stgd (by go_simp) _ rfl rfl rfl hbx0 ?_ | refine wpl_stgd (by go_simp) _ rfl rfl rfl hbx ?_)
      refine ht.mono ?_; rintro e w2 ⟨rfl, hb2⟩
      have HS2 : Hid (Sp w w2) := HS1.out.step hb2
      have hbx2 := keep_blk hb2 HBX.out
      have HWD2 : Hid (WdS w2 ⟨chaX s ((v : Int) - 1099511627776) (1 + (m : Int)), vnil, vnil, .slice (some ⟨w.heap.size, 0, none⟩) 1 1, .slice (some ⟨w.heap.size + 1, 0, none⟩) 2 2, vnil⟩ []) := HWD.out.below hb2
      have hp2 := parse_at HS2.out.2 (s := t) rfl (show (parseL t).2.1 = 0 by rw [HPP.out]) (show (parseL t).2.2 = 0 by rw [HPP.out])
      rw [HPP.out] at hp2
      clear hb2 ht hbx hbx0 hbq hone hsz hsz2
      go_wp2_with fail
      refine hp2.mono ?_; rintro en w3 ⟨y, tc, c, sv, wv, pv, L, rfl, hb3, hS3⟩
      have HS3 : Hid (Sp w w3) := HS2.out.step hb3
      have hq3 := hS3.wd.one
      have hy : y = chaX s ((v : Int) - 1099511627776) (1 + (m : Int)) := hS3.x
      have hwd3 := hS3.wd.below ((Below.refl w3.heap.size w3).alloc (Nat.le_refl _) (.cells (stC y tc c sv wv pv) 31))
      obtain ⟨a1, k1, he1, hr1⟩ := hwd3.st.s
      obtain ⟨a2, k2, he2, hr2⟩ := hwd3.st.wv
      rw [show y.sets.length = 1 by rw [hy]; rfl] at he1 hr1
      rw [show y.wher.length = 2 by rw [hy]; rfl] at he2 hr2
      obtain ⟨ga, oa, hea, hxa⟩ := hr1 (by omega)
      obtain ⟨gb, ob, heb, hxb⟩ := hr2 (by omega)
      subst hea
      subst heb
      have he1' : sv = .slice (some ⟨ga, oa, none⟩) 1 k1 := he1
      have he2' : wv = .slice (some ⟨gb, ob, none⟩) 2 k2 := he2
      subst he1'
      subst he2'
      have e1 : (w3.alloc (.cells (stC y tc c (.slice (some ⟨ga, oa, none⟩) 1 k1) (.slice (some ⟨gb, ob, none⟩) 2 k2) pv) 31)).cell? ⟨ga, oa + 2, none⟩ = some (.string s) := hxa 2 _ (by rw [hy]; rfl)
      have e2 : (w3.alloc (.cells (stC y tc c (.slice (some ⟨ga, oa, none⟩) 1 k1) (.slice (some ⟨gb, ob, none⟩) 2 k2) pv) 31)).cell? ⟨gb, ob + 3, none⟩ = some (.int .i64 ((v : Int) - 1099511627776)) := hxb 3 _ (by rw [hy]; rfl)
      have hys : y.stamp = 1 + (m : Int) := by rw [hy]; rfl
      have hby := blk_new w3 (.cells (stC y tc c (.slice (some ⟨ga, oa, none⟩) 1 k1) (.slice (some ⟨gb, ob, none⟩) 2 k2) pv) 31)
      have hbx4 := alloc_blk (keep_blk hb3 hbx2) (.cells (stC y tc c (.slice (some ⟨ga, oa, none⟩) 1 k1) (.slice (some ⟨gb, ob, none⟩) 2 k2) pv) 31)
      have HW4 : Hid (Sp w (w3.alloc (.cells (stC y tc c (.slice (some ⟨ga, oa, none⟩) 1 k1) (.slice (some ⟨gb, ob, none⟩) 2 k2) pv) 31))) := HS3.out.alloc _
      have hb34 : Below w2.heap.size w2 (w3.alloc (.cells (stC y tc c (.slice (some ⟨ga, oa, none⟩) 1 k1) (.slice (some ⟨gb, ob, none⟩) 2 k2) pv) 31)) := hb3.alloc hb3.size _
      have hc4 := check_any (w := (w3.alloc (.cells (stC y tc c (.slice (some ⟨ga, oa, none⟩) 1 k1) (.slice (some ⟨gb, ob, none⟩) 2 k2) pv) 31))) (p := ⟨chaX s ((v : Int) - 1099511627776) (1 + (m : Int)), vnil, vnil, .slice (some ⟨w.heap.size, 0, none⟩) 1 1, .slice (some ⟨w.heap.size + 1, 0, none⟩) 2 2, vnil⟩) (L := []) HW4.out.2 (HWD2.out.below hb34) HOK.out
      obtain ⟨W4, hW4⟩ : ∃ W4, (w3.alloc (.cells (stC y tc c (.slice (some ⟨ga, oa, none⟩) 1 k1) (.slice (some ⟨gb, ob, none⟩) 2 k2) pv) 31)) = W4 := ⟨_, rfl⟩
      have hbx4' := hbx4
      rw [hW4] at e1 e2 hby hbx4 HW4 hc4
      have HE1 := Lib.hid e1
      have HE2 := Lib.hid e2
      have HBY := Lib.hid hby
      have HYS := Lib.hid hys
      have HBX4 := Lib.hid hbx4
      have g2' : (7 : Int) < (t.size : Int) := by omega
      have g3' : (7 : Int) ≤ (t.size : Int) := by omega
      have G1 := Lib.hid g1
      clear hp2 hS3 hb3 hb34 hy hwd3 hr1 hr2 hxa hxb he1 he2 e1 e2 hby hys g2 hbx2
      go_wp2_with (first | refine wpl_sto2 rfl _ _ rfl rfl rfl rfl rfl hq3 ?_ | refine wpl_stgd (by go_simp) _ rfl rfl rfl hbx4' ?_ | refine wpl_stgd (by go_simp) _ rfl rfl rfl hbx4 ?_)
      refine hc4.mono ?_; rintro e w5 ⟨b, rfl, hb, hb5⟩
      have hbt := hb.2 HMAY.out
      subst hbt
      have HS5 : Hid (Sp w w5) := HW4.out.step hb5
      have e1 := blk_cellB hb5 HE1.out
      have e2 := blk_cellB hb5 HE2.out
      obtain ⟨d0, d1, d2, d3, d4, d5, d6, d7, d8, d9, d10, d11, d12, d13, d14, d15, d16, d17⟩ := st18 (keep_blk hb5 HBY.out)
      rw [HYS.out] at d14
      have c14 : w5.cell? ⟨w.heap.size + 1 + 1, 14, none⟩ = some (.int .i64 (1 + (m : Int))) := by rw [blk_cell (keep_blk hb5 HBX4.out)]; rfl
      have g1 := G1.out
      have hss : (s.toList == s.toList) = true := tl_eq rfl
      have haw := awake15_any HS5.out.2
      clear hb hb5 hc4 hW4 hbx4 hbx4' d0 d1 d2 d3 d4 d5 d6 d7 d8 d9 d10 d11 d15 d16 d17
      go_wp2_with fail
      refine haw.mono ?_; rintro e w7 ⟨rfl, h7⟩
      go_wp2_with fail
      go_ret
      exact ⟨rfl, HS5.out.trans h7⟩
    · have ht := ptext_no hS1.2 hwd hok hmay
      have HMAY := Lib.hid hmay
      have HBX := Lib.hid hbx
      clear hS1 hpa hpb hwd hok hmay h60
      go_wp2_with (first | refine wpl_sto2 rfl _ _ rfl hsz2.symm rfl rfl rfl hone ?_ | refine wpl_stgd (by go_simp) _ rfl rfl rfl hbx0 ?_ | refine wpl_stgd (by go_simp) _ rfl rfl rfl hbx ?_)
      refine ht.mono ?_; rintro e w2 ⟨rfl, hb2⟩
      have HS2 : Hid (Sp w w2) := HS1.out.step hb2
      have hbx2 := keep_blk hb2 HBX.out
      have HWD2 : Hid (WdS w2 ⟨chaX s ((v : Int) - 1099511627776) (1 + (m : Int)), vnil, vnil, .slice (some ⟨w.heap.size, 0, none⟩) 1 1, .slice (some ⟨w.heap.size + 1, 0, none⟩) 2 2, vnil⟩ []) := HWD.out.below hb2
      have hp2 := parse_at HS2.out.2 (s := ⟨#[]⟩) rfl rfl rfl
      obtain ⟨⟨qz, qa, qe⟩, hq⟩ : ∃ r, parseL ⟨#[]⟩ = r := ⟨_, rfl⟩
      rw [hq] at hp2
      clear hb2 ht hbx hbx0 hbq hone hsz hsz2 hq
      go_wp2_with fail
      refine hp2.mono ?_; rintro en w3 ⟨y, tc, c, sv, wv, pv, L, rfl, hb3, hS3⟩
      have HS3 : Hid (Sp w w3) := HS2.out.step hb3
      have hq3 := hS3.wd.one
      have hbx4 := alloc_blk (keep_blk hb3 hbx2) (.cells (stC y tc c sv wv pv) 31)
      have HW4 : Hid (Sp w (w3.alloc (.cells (stC y tc c sv wv pv) 31))) := HS3.out.alloc _
      have hb34 : Below w2.heap.size w2 (w3.alloc (.cells (stC y tc c sv wv pv) 31)) := hb3.alloc hb3.size _
      have hc4 := check_any (w := w3.alloc (.cells (stC y tc c sv wv pv) 31)) (p := ⟨chaX s ((v : Int) - 1099511627776) (1 + (m : Int)), vnil, vnil, .slice (some ⟨w.heap.size, 0, none⟩) 1 1, .slice (some ⟨w.heap.size + 1, 0, none⟩) 2 2, vnil⟩) (L := []) HW4.out.2 (HWD2.out.below hb34) HOK.out
      clear hp2 hS3 hb3 hb34 hbx2
      go_wp2_with (first | refine wpl_sto2 rfl _ _ rfl rfl rfl rfl rfl hq3 ?_ | refine wpl_stgd (by go_simp) _ rfl rfl rfl hbx4 ?_)
      refine hc4.mono ?_; rintro e w5 ⟨b, rfl, hb, hb5⟩
      have hbf : b = false := by
        cases b with
        | false => rfl
        | true => exact absurd (hb.1 rfl) HMAY.out
      subst hbf
      have HS5 : Hid (Sp w w5) := HW4.out.step hb5
      have haw := awake15_any HS5.out.2
      clear hb hb5 hc4 hbx4
      go_wp2_with fail
      refine haw.mono ?_; rintro e w7 ⟨rfl, h7⟩
      go_wp2_with fail
      go_ret
      exact ⟨rfl, HS5.out.trans h7⟩
end Go.Proofs.YtfbgdjcnlnfoaaaGreatDoor

