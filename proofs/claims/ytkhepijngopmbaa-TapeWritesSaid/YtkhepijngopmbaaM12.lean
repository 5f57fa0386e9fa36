/- Part of a claim: what some functions of the program compute, each with its contract; no condition of its own. Written by a program of this workplace (gen.py, over the print of the kit) and by hand. -/
import Derived.Test.YtkhepijngopmbaaM0
import Derived.Test.YtkhepijngopmbaaM6
namespace Go.Proofs.Ytkhepijngopmbaa.M
open Go.RowKit Go.Proofs.YtkhepijngopmbaaW.PrintWords Go.Proofs.YtkhepijngopmbaaW.PrintLast Go.Proofs.YtkhepijngopmbaaW.PrintMore
attribute [local go_sem] max2_int min2_int max_two min_two max_three min_three max_four min_four   -- for this text's walks alone
set_option linter.unusedVariables false
set_option linter.unusedSimpArgs false

/-! ### slices_Clone_byte_byte_24: function 24 -/
def slices_Clone_byte_byte_24.f (l0 : List Int) : Option (List Int) := if l0.length ≤ 1000000 then some l0 else none
theorem slices_Clone_byte_byte_24.calls (A0 : Option Addr) (c0 : Nat) (l0 : List Int) (r : List Int) (w : World) (hr0 : Kd.C (Kd.int .u8) w A0 l0.length l0) (hc0 : l0.length ≤ c0) (h : slices_Clone_byte_byte_24.f l0 = some r) :
    Calls Try.prog 24 #[.slice A0 l0.length c0] w fun e w' => ∃ v0_ : Value, e = .returned v0_ ∧ (Kd.int .u8).R 5 w' w.heap.size (fun _ => True) v0_ r ∧ Below w.heap.size w w' := by
  unfold slices_Clone_byte_byte_24.f at h
  by_cases hl : l0.length ≤ 1000000
  · rw [if_pos hl] at h
    obtain rfl := Option.some.inj h
    exact clone_any A0 c0 l0 w hr0 hl
  · rw [if_neg hl] at h; cases h

end Go.Proofs.Ytkhepijngopmbaa.M
