/- Part of a claim: what some functions of the program compute, each with its contract; no condition of its own. Written by a program of this workplace (gen.py, over the print of the kit) and by hand. -/
import Derived.Test.YtdbnglmcimckmaaM0
import Derived.Test.YtdbnglmcimckmaaM5
import Derived.Test.YtdbnglmcimckmaaM10
namespace Go.Proofs.Ytdbnglmcimckmaa.M
open Go.RowKit Go.Proofs.YtdbnglmcimckmaaW.PrintWords Go.Proofs.YtdbnglmcimckmaaW.PrintLast Go.Proofs.YtdbnglmcimckmaaW.PrintMore
attribute [local go_sem] max2_int min2_int max_two min_two max_three min_three max_four min_four   -- for this text's walks alone
set_option linter.unusedVariables false
set_option linter.unusedSimpArgs false

def manyI (n : Int) : Int := if n < 1 then 0 else (n - 1) / 512 + 1
theorem block_Many.tells (n : Int) (h0 : -9223372036854775808 ≤ n) (h1 : n ≤ 9223372036854775807) : block_Many.f n = some (manyI n) := by
  unfold block_Many.f manyI
  by_cases h : n < 1
  · rw [if_pos h, if_pos h]
  · rw [if_neg h, if_neg h, show wrap64 (n - 1) = n - 1 from wrap_id (by omega) (by omega), Int.tdiv_eq_ediv_of_nonneg (by omega), show wrap64 ((n - 1) / 512) = (n - 1) / 512 from wrap_id (by omega) (by omega), show wrap64 ((n - 1) / 512 + 1) = (n - 1) / 512 + 1 from wrap_id (by omega) (by omega)]

end Go.Proofs.Ytdbnglmcimckmaa.M
