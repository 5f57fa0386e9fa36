/- Part of a claim: what some functions of the program compute, each with its contract; no condition of its own. Written by a program of this workplace (gen.py, over the print of the kit) and by hand. -/
import Derived.Test.YtdbnglmcimckmaaM0
import Derived.Test.YtdbnglmcimckmaaM5
import Derived.Test.YtdbnglmcimckmaaM9
namespace Go.Proofs.Ytdbnglmcimckmaa.M
open Go.RowKit Go.Proofs.YtdbnglmcimckmaaW.PrintWords Go.Proofs.YtdbnglmcimckmaaW.PrintLast Go.Proofs.YtdbnglmcimckmaaW.PrintMore
attribute [local go_sem] max2_int min2_int max_two min_two max_three min_three max_four min_four   -- for this text's walks alone
set_option linter.unusedVariables false
set_option linter.unusedSimpArgs false

def zerosOf (n : Int) : List (List Int) := if n < 1 ∨ 400 < n then [] else List.replicate n.toNat (List.replicate 512 0)
theorem block_Zeros.ends (n : Int) (hn : 1 ≤ n) (hn2 : n ≤ 400) (d : Nat) : ∀ (k : Nat) (i : Int), 0 ≤ i → i ≤ n → n - i = d → d < k →
    block_Zeros.l0 k (List.replicate i.toNat (List.replicate 512 0)) n i = some (List.replicate n.toNat (List.replicate 512 0)) := by
  induction d with
  | zero =>
    intro k i h0 h1 hd hk
    obtain ⟨k, rfl⟩ : ∃ m, k = m + 1 := ⟨k - 1, by omega⟩
    simp only [block_Zeros.l0]
    rw [if_neg (by omega), show i = n by omega]
  | succ d ih =>
    intro k i h0 h1 hd hk
    obtain ⟨k, rfl⟩ : ∃ m, k = m + 1 := ⟨k - 1, by omega⟩
    simp only [block_Zeros.l0]
    rw [if_pos (by omega), if_pos (by omega), if_pos (by rw [List.length_replicate]; omega), wrap_id (by omega) (by omega), ← List.replicate_succ']
    have := ih k (i + 1) (by omega) (by omega) (by omega) (by omega)
    rwa [show (i + 1).toNat = i.toNat + 1 by omega] at this
theorem block_Zeros.tells (n : Int) : ∃ k, block_Zeros.f k n = some (zerosOf n) := by
  refine ⟨n.toNat + 2, ?_⟩
  unfold block_Zeros.f zerosOf
  by_cases h : n < 1
  · rw [if_pos h, if_pos (.inl h)]; simp only [block_Zeros.j0, if_true]
  · rw [if_neg h]
    simp only [block_Zeros.j0]
    by_cases h2 : n > 400
    · rw [if_pos (by simpa using h2), if_pos (.inr h2)]
    · rw [if_neg (by simpa using h2), if_neg (by omega)]
      exact block_Zeros.ends n (by omega) (by omega) n.toNat _ 0 (by omega) (by omega) (by omega) (by omega)
theorem block_Zeros.ev (n : Int) : Ev (fun k => block_Zeros.f k n) (zerosOf n) := by
  obtain ⟨k, hk⟩ := block_Zeros.tells n
  exact Ev.of (fun k => block_Zeros.mono n k) hk

-- NOT PRINTED: function 31 (slices_EqualFunc_byte_byte_byte_byte)

end Go.Proofs.Ytdbnglmcimckmaa.M
