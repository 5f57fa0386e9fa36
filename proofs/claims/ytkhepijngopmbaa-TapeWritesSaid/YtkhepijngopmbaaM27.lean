/- Part of a claim: what some functions of the program compute, each with its contract; no condition of its own. Written by a program of this workplace (gen.py, over the print of the kit) and by hand. -/
import Derived.Test.YtkhepijngopmbaaM0
import Derived.Test.YtkhepijngopmbaaM25
import Derived.Test.YtkhepijngopmbaaM26
namespace Go.Proofs.Ytkhepijngopmbaa.M
open Go.RowKit Go.Proofs.YtkhepijngopmbaaW.PrintWords Go.Proofs.YtkhepijngopmbaaW.PrintLast Go.Proofs.YtkhepijngopmbaaW.PrintMore
attribute [local go_sem] max2_int min2_int max_two min_two max_three min_three max_four min_four   -- for this text's walks alone
set_option linter.unusedVariables false
set_option linter.unusedSimpArgs false

theorem tape_Same.tells (a : Int) (l : List (List Int)) (b : Bool) (a' : Int) (l' : List (List Int)) (b' : Bool) : tape_Same.f a l b a' l' b' = some (decide (a = a' ∧ b = b' ∧ l = l')) := by
  unfold tape_Same.f block_Same.f
  by_cases h0 : a = a'
  · rw [if_pos h0]
    by_cases h1 : b = b'
    · rw [if_pos (beq_iff_eq.2 h1), Option.bind_some]
      by_cases h2 : l = l'
      · rw [decide_eq_true h2, decide_eq_true ⟨h0, h1, h2⟩]
      · rw [decide_eq_false h2, decide_eq_false (fun h => h2 h.2.2)]
    · rw [if_neg (fun h => h1 (beq_iff_eq.1 h)), decide_eq_false (fun h => h1 h.2.1)]
  · rw [if_neg h0, decide_eq_false (fun h => h0 h.1)]
theorem tape_Same.self (a : Int) (l : List (List Int)) (b : Bool) : tape_Same.f a l b a l b = some true := by
  rw [tape_Same.tells, decide_eq_true ⟨rfl, rfl, rfl⟩]

end Go.Proofs.Ytkhepijngopmbaa.M
