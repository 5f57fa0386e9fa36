/- Part of a claim: what some functions of the program compute, each with its contract; no condition of its own. Written by a program of this workplace (gen.py, over the print of the kit) and by hand. -/
import Derived.Test.YtkhepijngopmbaaM0
import Derived.Test.YtkhepijngopmbaaM11
import Derived.Test.YtkhepijngopmbaaM18
import Derived.Test.YtkhepijngopmbaaM20
import Derived.Test.YtkhepijngopmbaaM21
namespace Go.Proofs.Ytkhepijngopmbaa.M
open Go.RowKit Go.Proofs.YtkhepijngopmbaaW.PrintWords Go.Proofs.YtkhepijngopmbaaW.PrintLast Go.Proofs.YtkhepijngopmbaaW.PrintMore
attribute [local go_sem] max2_int min2_int max_two min_two max_three min_three max_four min_four   -- for this text's walks alone
set_option linter.unusedVariables false
set_option linter.unusedSimpArgs false

def writeT (a : Int) (l : List (List Int)) (b : Bool) (r : List Int) : Int × List (List Int) × Bool × Int :=
  if mayT a l = true then (if recMay r = true then (if b = true ∨ (l.length : Int) = a then (a, l, b, 8) else (a, l ++ [r], b, 0)) else (a, l, b, 1)) else (a, l, b, 1)
theorem sized_one {r : List Int} (h : r.length ≤ 1000000) : sized [r] := ⟨by simp, by simpa using h⟩
theorem sized_nil : sized [] := ⟨by simp, rfl⟩
theorem sized_snoc {l : List (List Int)} {r : List Int} (h : sized l) (hl : l.length < 1000) (hr : r.length ≤ 1000000) : sized (l ++ [r]) :=
  ⟨by rw [List.length_append, List.length_singleton]; omega, by rw [List.all_append, h.2]; simpa using hr⟩
theorem tape_Write.tells (a : Int) (l : List (List Int)) (b : Bool) (r : List Int) (hs : sized l) (hr : r.length ≤ 1000000) : tape_Write.f a l b r = some (writeT a l b r) := by
  unfold tape_Write.f tape_Fill.f fillT writeT
  rw [if_pos ⟨hs, sized_one hr⟩, Option.bind_some]
  by_cases hm : mayT a l = true
  · rw [if_pos hm, if_pos hm]
    simp only [fillN]
    by_cases h1 : recMay r = true
    · rw [if_pos h1, if_pos h1]
      by_cases h2 : b = true ∨ (l.length : Int) = a
      · rw [if_pos h2, if_pos h2]
        simp
      · rw [if_neg h2, if_neg h2]
        simp
    · rw [if_neg h1, if_neg h1]
      simp
  · rw [if_neg hm, if_neg hm]

end Go.Proofs.Ytkhepijngopmbaa.M
