/- Plain: the law LexNumbers. -/
import Derived.Test.YtfbgdjcnlnfoaaaDoorPlainS
import Derived.WalkKit
namespace Go.Proofs.YtfbgdjcnlnfoaaaDoor
namespace Cle
open Go.RowKit

theorem mk_app (a b : List UInt8) : (⟨(a ++ b).toArray⟩ : ByteArray) = ⟨a.toArray⟩ ++ ⟨b.toArray⟩ := by
  apply ByteArray.ext; apply Array.ext'; simp
def numS (neg : Bool) (z d : Nat) : List UInt8 := minusL neg ++ (List.replicate z 48 ++ dec d)
theorem numS_size (neg : Bool) (z d : Nat) (hz : z < 20) (hd : d ≤ 1099511627776) : (numS neg z d).length ≤ 40 := by
  have := dec_len13 d hd
  unfold numS minusL
  split <;> simp <;> omega
theorem numbers_ok (neg : Bool) (z d : Nat) (hz : z < 20) (hd : d ≤ 1099511627776) :
    ∃ a : Nat, lexL (⟨#[32]⟩ ++ ((⟨(numS neg z d).toArray⟩ : ByteArray) ++ ⟨#[44]⟩)) = ([⟨2, ⟨#[]⟩, if neg then -(d : Int) else d, 1⟩, ⟨4, ⟨#[44]⟩, 0, a⟩], 0, 0) := by
  have hs := Lx.sign 44 (by decide) Lx.nil
  have hst := stop_one 44 (by decide) ⟨#[]⟩
  rw [app_nil] at hs hst
  have hn := Lx.number neg (List.replicate z 48 ++ dec d) (digL_zeros _ (dec_dig d).1 z) (by intro e; exact (dec_dig d).2 (List.append_eq_nil_iff.1 e).2) hst d (by rw [numV_zeros, numV_dec d hd]) hs
  have hb := Lx.blank 32 (by decide) hn
  have hsz := numS_size neg z d hz hd
  refine ⟨_, hb.lexL ?_⟩
  rw [ByteArray.size_append, ByteArray.size_append]
  show 1 + ((numS neg z d).toArray.size + 1) ≤ 1000
  rw [List.size_toArray]; omega
theorem numbers_x (neg : Bool) (z d : Nat) (hz : z < 20) (hd : d ≤ 1099511627776) :
    lexL (⟨#[32]⟩ ++ ((⟨(numS neg z d).toArray⟩ : ByteArray) ++ ⟨#[120]⟩)) = ([], 1, 3) := by
  have hdig := digL_zeros _ (dec_dig d).1 z
  have hne : List.replicate z 48 ++ dec d ≠ [] := by intro e; exact (dec_dig d).2 (List.append_eq_nil_iff.1 e).2
  obtain ⟨h1, h2, h3, h4⟩ := tok_numberG neg (List.replicate z 48 ++ dec d) hdig hne ⟨#[120]⟩ (by decide +kernel) d true (by rw [numV_zeros, numV_dec d hd])
  have hlx : letB (pts ⟨#[120]⟩) 0 = true := by decide +kernel
  rw [hlx] at h1
  have hne2 : pts (⟨(numS neg z d).toArray⟩ ++ ⟨#[120]⟩) ≠ [] := by
    unfold numS
    rw [(Cut.of_valid _ _ h3).pts, one_pts 120 (by decide)]; simp
  have hb := Lbad.blank 32 (by decide) (Lbad.here (t := ⟨(numS neg z d).toArray⟩ ++ ⟨#[120]⟩) hne2 h2 (by unfold numS; rw [h1]; rfl))
  have hsz := numS_size neg z d hz hd
  refine hb.lexL ?_
  rw [ByteArray.size_append, ByteArray.size_append]
  show 1 + ((numS neg z d).toArray.size + 1) ≤ 1000
  rw [List.size_toArray]; omega
theorem numbers_big (neg : Bool) : lexL ⟨(minusL neg ++ [49, 48, 57, 57, 53, 49, 49, 54, 50, 55, 55, 55, 55]).toArray⟩ = ([], 0, 3) := by
  cases neg <;> kernel_rfl

/-- The digits as the law lays them: the last first. -/
theorem dec_step {d : Nat} (h : 10 ≤ d) (S : List UInt8) : dec d ++ S = dec (d / 10) ++ (UInt8.ofNat (48 + d % 10) :: S) := by
  rw [dec_more h, List.append_assoc]; rfl
def tenS : ByteArray := ⟨#[48, 49, 50, 51, 52, 53, 54, 55, 56, 57]⟩
theorem ten_at (k : Nat) (h : k < 10) : tenS.extract k (k + 1) = ⟨#[UInt8.ofNat (48 + k)]⟩ := by
  have : k = 0 ∨ k = 1 ∨ k = 2 ∨ k = 3 ∨ k = 4 ∨ k = 5 ∨ k = 6 ∨ k = 7 ∨ k = 8 ∨ k = 9 := by omega
  rcases this with rfl | rfl | rfl | rfl | rfl | rfl | rfl | rfl | rfl | rfl <;> decide +kernel

end Cle
end Go.Proofs.YtfbgdjcnlnfoaaaDoor
