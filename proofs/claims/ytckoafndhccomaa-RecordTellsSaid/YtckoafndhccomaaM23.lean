/- Part of a claim: what some functions of the program compute, each with its contract; no condition of its own. Written by a program of this workplace (gen.py, over the print of the kit) and by hand. -/
import Derived.Test.YtckoafndhccomaaM0
import Derived.Test.YtckoafndhccomaaM8
import Derived.Test.YtckoafndhccomaaM22
namespace Go.Proofs.Ytckoafndhccomaa.M
open Go.RowKit Go.Proofs.YtckoafndhccomaaW.PrintWords Go.Proofs.YtckoafndhccomaaW.PrintLast Go.Proofs.YtckoafndhccomaaW.PrintMore
attribute [local go_sem] max2_int min2_int max_two min_two max_three min_three max_four min_four   -- for this text's walks alone
set_option linter.unusedVariables false
set_option linter.unusedSimpArgs false

theorem reelkeeperref03_May.ends (l : List (List Int)) (hm : l.length ≤ 9223372036854775807) (d : Nat) : ∀ (k : Nat) (i : Int), 0 ≤ i → i ≤ l.length → (l.length : Int) - i = d → d < k → ((l.take i.toNat).all fun b => b.length == 512) = true →
    reelkeeperref03_May.l0 k l i = some (l.all fun b => b.length == 512) := by
  induction d with
  | zero =>
    intro k i h0 h1 hd hk ha
    obtain ⟨k, rfl⟩ : ∃ m, k = m + 1 := ⟨k - 1, by omega⟩
    simp only [reelkeeperref03_May.l0]
    rw [if_neg (by omega)]
    rw [List.take_of_length_le (by omega)] at ha
    rw [ha]
  | succ d ih =>
    intro k i h0 h1 hd hk ha
    obtain ⟨k, rfl⟩ : ∃ m, k = m + 1 := ⟨k - 1, by omega⟩
    simp only [reelkeeperref03_May.l0]
    have hlt : i.toNat < l.length := by omega
    rw [if_pos (by omega), if_pos h0, rd_L1_at l i hlt]
    by_cases h5 : (l[i.toNat].length : Int) = 512
    · rw [if_pos h5, wrap_id (by omega) (by omega)]
      refine ih k (i + 1) (by omega) (by omega) (by omega) (by omega) ?_
      rw [show (i + 1).toNat = i.toNat + 1 by omega, all_take_succ _ _ _ hlt, ha]
      simp; omega
    · rw [if_neg h5, all_take_false _ l i.toNat hlt (by simp; omega)]
theorem reelkeeperref03_May.tells (l : List (List Int)) (hm : l.length ≤ 9223372036854775807) : ∃ k, reelkeeperref03_May.f k l = some (l.all fun b => b.length == 512) :=
  ⟨l.length + 1, reelkeeperref03_May.ends l hm l.length _ 0 (by omega) (by omega) (by omega) (by omega) (by simp)⟩

end Go.Proofs.Ytckoafndhccomaa.M
