/- Part of a claim: what some functions of the program compute, each with its contract; no condition of its own. Written by a program of this workplace (gen.py, over the print of the kit) and by hand. -/
import Derived.Test.YtkhepijngopmbaaM0
import Derived.Test.YtkhepijngopmbaaM15
import Derived.Test.YtkhepijngopmbaaM16
namespace Go.Proofs.Ytkhepijngopmbaa.M
open Go.RowKit Go.Proofs.YtkhepijngopmbaaW.PrintWords Go.Proofs.YtkhepijngopmbaaW.PrintLast Go.Proofs.YtkhepijngopmbaaW.PrintMore
attribute [local go_sem] max2_int min2_int max_two min_two max_three min_three max_four min_four   -- for this text's walks alone
set_option linter.unusedVariables false
set_option linter.unusedSimpArgs false

/-- May bytes be a record? -/
def recMay (r : List Int) : Bool := decide (r.length % 512 = 0) && (decide (1 ≤ r.length / 512) && decide (r.length / 512 ≤ 20))
theorem recMay_f (r : List Int) (hr : r.length ≤ 9223372036854775807) : record_May.f r = some (recMay r) := by
  unfold record_May.f record_factor.f recMay
  by_cases h1 : r.length % 512 = 0
  · rw [if_pos (by omega), show wrap64 ((r.length : Int) / 512) = ((r.length / 512 : Nat) : Int) by unfold wrap64; omega]
    by_cases h2 : 1 ≤ r.length / 512
    · rw [if_pos (by omega), Option.bind_some, decide_eq_true h1, decide_eq_true h2]
      by_cases h3 : r.length / 512 ≤ 20
      · rw [decide_eq_true h3, decide_eq_true (by omega)]; rfl
      · rw [decide_eq_false h3, decide_eq_false (by omega)]; rfl
    · rw [if_neg (by omega), Option.bind_some, decide_eq_true h1, decide_eq_false h2]; rfl
  · rw [if_neg (by omega), decide_eq_false h1]; rfl

end Go.Proofs.Ytkhepijngopmbaa.M
