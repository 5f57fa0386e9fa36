/- Part of a claim: what some functions of the program compute, each with its contract; no condition of its own. Written by a program of this workplace (gen.py, over the print of the kit) and by hand. -/
import Derived.Test.YtkhepijngopmbaaM0
import Derived.Test.YtkhepijngopmbaaM11
import Derived.Test.YtkhepijngopmbaaM20
import Derived.Test.YtkhepijngopmbaaM30
namespace Go.Proofs.Ytkhepijngopmbaa.M
open Go.RowKit Go.Proofs.YtkhepijngopmbaaW.PrintWords Go.Proofs.YtkhepijngopmbaaW.PrintLast Go.Proofs.YtkhepijngopmbaaW.PrintMore
attribute [local go_sem] max2_int min2_int max_two min_two max_three min_three max_four min_four   -- for this text's walks alone
set_option linter.unusedVariables false
set_option linter.unusedSimpArgs false

def closeT (a : Int) (l : List (List Int)) (b : Bool) : Int × List (List Int) × Bool × Int :=
  if mayT a l = true then (if b = true then (a, l, b, 8) else (a, l, true, 0)) else (a, l, b, 1)
theorem tape_Close.tells (a : Int) (l : List (List Int)) (b : Bool) (hs : sized l) : tape_Close.f a l b = some (closeT a l b) := by
  unfold tape_Close.f tape_May.f closeT
  rw [tape_own.tells a l b hs, Option.bind_some, Option.bind_some]
  by_cases hm : mayT a l = true
  · rw [if_pos hm, if_pos hm]
    by_cases hb : b = true
    · rw [if_pos hb, if_pos hb]
    · rw [if_neg hb, if_neg hb]
  · rw [if_neg hm, if_neg hm]

end Go.Proofs.Ytkhepijngopmbaa.M
