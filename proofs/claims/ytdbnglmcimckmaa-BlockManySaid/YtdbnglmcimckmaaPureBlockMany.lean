/- BlockMany: so many blocks are enough and one fewer is not; a byte more takes one more just if all are full: for every int. -/
import Derived.Test.YtdbnglmcimckmaaM0
import Derived.Test.YtdbnglmcimckmaaM14
import Derived.Test.YtdbnglmcimckmaaM24
import Derived.Test.YtdbnglmcimckmaaM37
namespace Go.Proofs.Ytdbnglmcimckmaa.Pure
open Go.RowKit Go.Proofs.Ytdbnglmcimckmaa.M Go.Proofs.YtdbnglmcimckmaaW.PrintWords Go.Proofs.YtdbnglmcimckmaaW.PrintLast
theorem BlockMany : reelkeeperlaw03_BlockMany.Pure := by
  intro n hw
  have hb := wf_range hw
  obtain ⟨K, h1⟩ := reelkeeperlaw03_awake.tells
  refine ⟨K, ?_⟩
  unfold reelkeeperlaw03_BlockMany.f
  rw [h1 K (by omega), Option.bind_some, block_Many.tells n (by omega) (by omega), Option.bind_some, if_pos rfl]
  by_cases h : n < 1
  · rw [if_pos h, if_neg (by omega)]
    unfold manyI
    rw [if_pos h]
    rfl
  · rw [if_neg h]
    by_cases h2 : n > 4611686018427387904
    · rw [if_pos h2]
    · have e1 : manyI n = (n - 1) / 512 + 1 := by unfold manyI; rw [if_neg h]
      have e2 : manyI (n + 1) = n / 512 + 1 := by unfold manyI; rw [if_neg (by omega), show n + 1 - 1 = n by omega]
      rw [if_neg h2, wrap_id (x := n + 1) (by omega) (by omega), block_Many.tells (n + 1) (by omega) (by omega), Option.bind_some, wrap_id (x := manyI n * 512) (by omega) (by omega), if_pos (by omega), wrap_id (x := manyI n - 1) (by omega) (by omega), wrap_id (x := (manyI n - 1) * 512) (by omega) (by omega), if_pos (by omega), Int.tmod_eq_emod_of_nonneg (by omega), wrap_id (x := manyI n + 1) (by omega) (by omega)]
      by_cases h3 : n % 512 = 0
      · rw [if_pos h3, if_pos (by omega)]
      · rw [if_neg h3]
        have : manyI (n + 1) = manyI n := by omega
        rw [this, beq_self_eq_true]
end Go.Proofs.Ytdbnglmcimckmaa.Pure
