/- Part of a claim: what some functions of the program compute, each with its contract; no condition of its own. Written by a program of this workplace (gen.py, over the print of the kit) and by hand. -/
import Derived.Test.YtkhepijngopmbaaM0
import Derived.Test.YtkhepijngopmbaaM11
import Derived.Test.YtkhepijngopmbaaM12
import Derived.Test.YtkhepijngopmbaaM17
import Derived.Test.YtkhepijngopmbaaM20
import Derived.Test.YtkhepijngopmbaaM28
namespace Go.Proofs.Ytkhepijngopmbaa.M
open Go.RowKit Go.Proofs.YtkhepijngopmbaaW.PrintWords Go.Proofs.YtkhepijngopmbaaW.PrintLast Go.Proofs.YtkhepijngopmbaaW.PrintMore
attribute [local go_sem] max2_int min2_int max_two min_two max_three min_three max_four min_four   -- for this text's walks alone
set_option linter.unusedVariables false
set_option linter.unusedSimpArgs false

def readT (a : Int) (l : List (List Int)) (i : Int) : List Int × Int :=
  if mayT a l = true then (if i < 0 then ([], 9) else if i ≥ (l.length : Int) then ([], 8) else (rd_L1 l i, 0)) else ([], 1)
theorem sized_at {l : List (List Int)} (h : sized l) (i : Int) (h0 : 0 ≤ i) (h1 : i < (l.length : Int)) : (rd_L1 l i).length ≤ 1000000 := by
  rw [rd_L1_at _ _ (by omega)]
  exact of_decide_eq_true (List.all_eq_true.1 h.2 _ (List.getElem_mem _))
theorem tape_Read.tells (a : Int) (l : List (List Int)) (b : Bool) (i : Int) (hs : sized l) : tape_Read.f a l b i = some (readT a l i) := by
  unfold tape_Read.f tape_May.f readT
  rw [Option.bind_some]
  by_cases hm : mayT a l = true
  · rw [if_pos hm, if_pos hm]
    by_cases h0 : i < 0
    · rw [if_pos h0, if_pos h0]
    · rw [if_neg h0, if_neg h0]
      by_cases h1 : i ≥ (l.length : Int)
      · rw [if_pos h1, if_pos h1]
      · rw [if_neg h1, if_neg h1, if_pos (by omega), if_pos (by omega)]
        unfold slices_Clone_byte_byte_24.f
        rw [if_pos (sized_at hs i (by omega) (by omega))]
        rfl
  · rw [if_neg hm, if_neg hm]

end Go.Proofs.Ytkhepijngopmbaa.M
