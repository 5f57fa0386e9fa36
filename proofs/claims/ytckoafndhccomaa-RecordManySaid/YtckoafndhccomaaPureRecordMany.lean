/- RecordMany: so many records are enough and one fewer is not; of one block a record there are as many as blocks: for every two ints. -/
import Derived.Test.YtckoafndhccomaaM0
import Derived.Test.YtckoafndhccomaaM15
import Derived.Test.YtckoafndhccomaaM27
import Derived.Test.YtckoafndhccomaaM31
import Derived.Test.YtckoafndhccomaaM45
namespace Go.Proofs.Ytckoafndhccomaa.Pure
open Go.RowKit Go.Proofs.Ytckoafndhccomaa.M Go.Proofs.YtckoafndhccomaaW.PrintWords Go.Proofs.YtckoafndhccomaaW.PrintLast
theorem RecordMany : reelkeeperlaw11_RecordMany.Pure := by
  intro n b hw hw2
  have hb := wf_range hw
  have hb2 := wf_range hw2
  obtain ⟨K, h1⟩ := reelkeeperlaw11_awake.tells
  refine ⟨K, ?_⟩
  unfold reelkeeperlaw11_RecordMany.f
  rw [h1 K (by omega), Option.bind_some, record_Many.tells n b (by omega) (by omega), Option.bind_some, if_pos rfl]
  by_cases c1 : n < 1
  · have e : manyR n b = 0 := by unfold manyR; rw [if_pos c1]
    rw [if_pos c1, if_neg (by omega), e]; rfl
  · rw [if_neg c1]
    by_cases c2 : n > 1125899906842624
    · rw [if_pos c2]
    · rw [if_neg c2]
      by_cases c3 : b < 1
      · have e : manyR n b = 0 := by unfold manyR; rw [if_neg c1, if_neg (by omega)]
        rw [if_pos c3, e]; rfl
      · rw [if_neg c3]
        by_cases c4 : b > 20
        · have e : manyR n b = 0 := by unfold manyR; rw [if_neg c1, if_neg (by omega)]
          rw [if_pos c4, e]; rfl
        · have e : manyR n b = (n - 1) / b + 1 := by unfold manyR; rw [if_neg c1, if_pos ⟨by omega, by omega⟩]
          have q1 := Int.ediv_mul_le (n - 1) (show b ≠ 0 by omega)
          have q2 := Int.lt_ediv_add_one_mul_self (n - 1) (show 0 < b by omega)
          have q3 := div_small (n := n - 1) (b := b) (by omega) (by omega)
          rw [Int.add_mul, Int.one_mul] at q2
          rw [if_neg c4, e, Int.add_sub_cancel, wrap_id (x := (n - 1) / b) (by omega) (by omega), wrap_id (x := (n - 1) / b * b) (by omega) (by omega), Int.add_mul, Int.one_mul, wrap_id (x := (n - 1) / b * b + b) (by omega) (by omega), if_pos (by omega), if_pos (by omega), record_Many.tells n 1 (by omega) (by omega), Option.bind_some]
          have e1 : manyR n 1 = n := by unfold manyR; rw [if_neg c1, if_pos ⟨by omega, by omega⟩, Int.ediv_one]; omega
          rw [e1, beq_self_eq_true]
end Go.Proofs.Ytckoafndhccomaa.Pure
