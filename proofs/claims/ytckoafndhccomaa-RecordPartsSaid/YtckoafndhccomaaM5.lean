/- Part of a claim: what some functions of the program compute, each with its contract; no condition of its own. Written by a program of this workplace (gen.py, over the print of the kit) and by hand. -/
import Derived.Test.YtckoafndhccomaaM0
namespace Go.Proofs.Ytckoafndhccomaa.M
open Go.RowKit Go.Proofs.YtckoafndhccomaaW.PrintWords Go.Proofs.YtckoafndhccomaaW.PrintLast Go.Proofs.YtckoafndhccomaaW.PrintMore
attribute [local go_sem] max2_int min2_int max_two min_two max_three min_three max_four min_four   -- for this text's walks alone
set_option linter.unusedVariables false
set_option linter.unusedSimpArgs false

/-! ### slices.Chunk: how many parts, and each one -/
def intOf : Value → Nat
  | .int _ x => x.toNat
  | _ => 0
def partsOf (len m : Nat) : Nat := (len + m - 1) / m
theorem parts_lt (len m i : Nat) (hm : 1 ≤ m) : i < partsOf len m ↔ m * i < len := by
  unfold partsOf
  rw [Nat.lt_iff_add_one_le, Nat.le_div_iff_mul_le (by omega), Nat.add_mul, Nat.mul_comm i m]
  omega
def pieceV (A : Option Addr) (len m i : Nat) : Value := .slice (A.map (·.add (m * i))) (min m (len - m * i)) (min m (len - m * i))
theorem boxed_drew {W : World} {B t : Nat} {v : Value} (h : Boxed W B t v) : Boxed W.drew B t v := h

end Go.Proofs.Ytckoafndhccomaa.M
