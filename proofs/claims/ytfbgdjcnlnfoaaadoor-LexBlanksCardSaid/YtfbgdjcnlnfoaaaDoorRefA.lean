/- Walks: the reference of layer 1: cont, one. -/
import Derived.Test.YtfbgdjcnlnfoaaaDoorRunesC
import Derived.Test.YtfbgdjcnlnfoaaaDoorPlainD
namespace Go.Proofs.YtfbgdjcnlnfoaaaDoor
open Go.RowKit
open Cle

theorem contB_step (s : ByteArray) (a k : Nat) : contB s a (k + 1) = (contB s a k && decide (a + k < s.size ∧ bY s (a + k) / 64 = 2)) := rfl
theorem contB_mono (s : ByteArray) (a : Nat) : ∀ n k, k ≤ n → contB s a n = true → contB s a k = true := by
  intro n
  induction n with
  | zero => intro k hk h; have : k = 0 := by omega
            subst this; exact h
  | succ n ih =>
    intro k hk h
    rw [contB_step, Bool.and_eq_true] at h
    by_cases e : k = n + 1
    · subst e; rw [contB_step, Bool.and_eq_true]; exact h
    · exact ih k (by omega) h.1

/-- A code point as the reference keeps it. -/
def ptV (p : Pt) : Value := .agg #[.int .i32 p.r, .int .i64 p.at_, .int .i64 p.n, .bool p.ok]
def ptAt (s : ByteArray) (a : Nat) : Pt := ⟨(Utf8.decode s a).1, a, (Utf8.decode s a).2⟩

theorem ret_pt {fn : Func} {R : Ending → World → Prop} {a : Act} {w : World} {q : Pt} {v : Value} (hr : (results fn a.tmps).run Tryd.prog w = .ok v w) (hd : a.defers = []) (hv : v = ptV q) (hR : R (.returned (ptV q)) w) : bodyPost Tryd.prog fn R .ret a w := by
  subst hv
  exact bodyPost_ret hr hd hR

end Go.Proofs.YtfbgdjcnlnfoaaaDoor
