/- Part of a claim: what some functions of the program compute, each with its contract; no condition of its own. Written by a program of this workplace (gen.py, over the print of the kit) and by hand. -/
import Derived.Test.YtdbnglmcimckmaaM0
import Derived.Test.YtdbnglmcimckmaaM2
import Derived.Test.YtdbnglmcimckmaaM4
import Derived.Test.YtdbnglmcimckmaaM5
import Derived.Test.YtdbnglmcimckmaaM19
import Derived.Test.YtdbnglmcimckmaaM20
import Derived.Test.YtdbnglmcimckmaaM21
namespace Go.Proofs.Ytdbnglmcimckmaa.M
open Go.RowKit Go.Proofs.YtdbnglmcimckmaaW.PrintWords Go.Proofs.YtdbnglmcimckmaaW.PrintLast Go.Proofs.YtdbnglmcimckmaaW.PrintMore
attribute [local go_sem] max2_int min2_int max_two min_two max_three min_three max_four min_four   -- for this text's walks alone
set_option linter.unusedVariables false
set_option linter.unusedSimpArgs false

theorem reelkeeperref03_Text.ends (l : List (List Int)) (n : Int) (hl : l.length ≤ 1000000) (hm : (l.all fun b => b.length == 512) = true) (hn : 0 ≤ n) (hn2 : n ≤ 512 * (l.length : Int)) (d : Nat) : ∀ (k : Nat) (i : Int), 0 ≤ i → i ≤ l.length → (l.length : Int) - i = d → d < k →
    reelkeeperref03_Text.l0 k l n (l.take i.toNat).flatten i = some (strOfNums (l.flatten.take n.toNat), true) := by
  have hfl := flat_512 l hm
  induction d with
  | zero =>
    intro k i h0 h1 hd hk
    obtain ⟨k, rfl⟩ : ∃ m, k = m + 1 := ⟨k - 1, by omega⟩
    simp only [reelkeeperref03_Text.l0]
    rw [if_neg (by omega), if_pos hn, List.take_of_length_le (by omega : l.length ≤ i.toNat), if_pos (by omega)]
  | succ d ih =>
    intro k i h0 h1 hd hk
    obtain ⟨k, rfl⟩ : ∃ m, k = m + 1 := ⟨k - 1, by omega⟩
    simp only [reelkeeperref03_Text.l0]
    have hlt : i.toNat < l.length := by omega
    have h2 := flat_le l (i.toNat + 1)
    have h3 : (l.take (i.toNat + 1)).flatten = (l.take i.toNat).flatten ++ rd_L1 l i := flat_take hlt
    rw [h3, List.length_append] at h2
    rw [if_pos (by omega), if_pos h0, if_pos (by omega), wrap_id (by omega) (by omega), ← h3]
    have := ih k (i + 1) (by omega) (by omega) (by omega) (by omega)
    rwa [show (i + 1).toNat = i.toNat + 1 by omega] at this
theorem reelkeeperref03_Text.tells (l : List (List Int)) (n : Int) (h0 : -9223372036854775808 ≤ n) (h1 : n ≤ 9223372036854775807) (hl : l.length ≤ 1000000) :
    ∃ k, reelkeeperref03_Text.f k l n = some (if 0 ≤ n ∧ (l.all fun b => b.length == 512) = true ∧ manyI n = l.length then (strOfNums (l.flatten.take n.toNat), true) else (⟨#[]⟩, false)) := by
  obtain ⟨k, hk⟩ := reelkeeperref03_May.tells l (by omega)
  refine ⟨k + l.length + 2, ?_⟩
  have hk2 : reelkeeperref03_May.f (k + l.length + 2) l = _ := at_rounds (fun k => reelkeeperref03_May.mono l k) (by omega) hk
  unfold reelkeeperref03_Text.f
  rw [hk2, Option.bind_some]
  cases hm : (l.all fun b => b.length == 512) with
  | false => rw [if_neg (by simp), if_neg (by simp)]; simp only [reelkeeperref03_Text.j0, if_true]
  | true =>
    rw [if_pos rfl]
    by_cases hn : n < 0
    · rw [if_pos hn, if_neg (by omega)]; simp only [reelkeeperref03_Text.j0, if_true]
    · rw [if_neg hn, reelkeeperref03_Many.tells n h0 h1, Option.bind_some]
      simp only [reelkeeperref03_Text.j0]
      by_cases hq : manyI n = l.length
      · rw [if_neg (by simp [hq]), if_pos ⟨by omega, by simp, hq⟩]
        exact reelkeeperref03_Text.ends l n hl hm (by omega) (by rw [← hq]; unfold manyI; split <;> omega) l.length _ 0 (by omega) (by omega) (by omega) (by omega)
      · rw [if_pos (by simpa using hq), if_neg (by omega)]

end Go.Proofs.Ytdbnglmcimckmaa.M
