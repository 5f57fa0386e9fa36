/- BlockBack: what is cut is told again, in as many blocks as it takes, and what is behind it are noughts: for every text and every place. -/
import Derived.Test.YtdbnglmcimckmaaM0
import Derived.Test.YtdbnglmcimckmaaM13
import Derived.Test.YtdbnglmcimckmaaM14
import Derived.Test.YtdbnglmcimckmaaM24
import Derived.Test.YtdbnglmcimckmaaM34
import Derived.Test.YtdbnglmcimckmaaM36
namespace Go.Proofs.Ytdbnglmcimckmaa.Pure
open Go.RowKit Go.Proofs.Ytdbnglmcimckmaa.M Go.Proofs.YtdbnglmcimckmaaW.PrintWords Go.Proofs.YtdbnglmcimckmaaW.PrintLast
theorem BlockBack : reelkeeperlaw03_BlockBack.Pure := by
  intro s i hs hw
  have hb := wf_range hw
  obtain ⟨K, h1⟩ := reelkeeperlaw03_awake.tells
  refine ⟨K + 2, ?_⟩
  unfold reelkeeperlaw03_BlockBack.f
  rw [h1 (K + 2) (by omega), Option.bind_some, if_pos rfl]
  simp only [reelkeeperlaw03_BlockBack.j0]
  by_cases hl : (s.size : Int) > 5000
  · rw [if_pos (by simpa using hl)]
  · rw [if_neg (by simpa using hl)]
    have hc : block_Cut.f s = some (cutOf s (manyS s)) := by unfold block_Cut.f; rw [if_pos (by omega)]
    rw [hc, Option.bind_some, block_Text.back s (by omega), Option.bind_some, if_pos rfl, if_pos rfl, block_Many.tells _ (by omega) (by omega), Option.bind_some, manyI_many, if_pos (by rw [cutOf_length]), block_May.tells, Option.bind_some, cutOf_may]
    simp only [reelkeeperlaw03_BlockBack.j1]
    have hm : manyS s ≤ 10 := by unfold manyS; omega
    rw [if_neg (by decide)]
    by_cases h2 : i < (s.size : Int)
    · rw [if_pos h2]
    · rw [if_neg h2, cutOf_length, wrap_id (x := 512 * (manyS s : Int)) (by omega) (by omega)]
      by_cases h3 : i ≥ 512 * (manyS s : Int)
      · rw [if_pos h3]
      · rw [if_neg h3, Int.tdiv_eq_ediv_of_nonneg (by omega), Int.tmod_eq_emod_of_nonneg (by omega), wrap_id (x := i / 512) (by omega) (by omega), if_pos (by omega), if_pos (by omega), if_pos (by omega)]
        obtain ⟨q, hq⟩ := Int.eq_ofNat_of_zero_le (show 0 ≤ i / 512 by omega)
        obtain ⟨j, hj⟩ := Int.eq_ofNat_of_zero_le (show 0 ≤ i % 512 by omega)
        rw [hq, hj, cutOf_get s _ q (by omega), blk_length, if_pos (by omega)]
        have h4 := blk_get s q j (by omega)
        rw [if_neg (by omega)] at h4
        rw [rd_get h4]
        rfl
end Go.Proofs.Ytdbnglmcimckmaa.Pure
