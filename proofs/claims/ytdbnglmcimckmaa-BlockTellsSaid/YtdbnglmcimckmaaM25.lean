/- Part of a claim: what some functions of the program compute, each with its contract; no condition of its own. Written by a program of this workplace (gen.py, over the print of the kit) and by hand. -/
import Derived.Test.YtdbnglmcimckmaaM0
import Derived.Test.YtdbnglmcimckmaaM5
import Derived.Test.YtdbnglmcimckmaaM7
import Derived.Test.YtdbnglmcimckmaaM8
import Derived.Test.YtdbnglmcimckmaaM20
import Derived.Test.YtdbnglmcimckmaaM24
namespace Go.Proofs.Ytdbnglmcimckmaa.M
open Go.RowKit Go.Proofs.YtdbnglmcimckmaaW.PrintWords Go.Proofs.YtdbnglmcimckmaaW.PrintLast Go.Proofs.YtdbnglmcimckmaaW.PrintMore
attribute [local go_sem] max2_int min2_int max_two min_two max_three min_three max_four min_four   -- for this text's walks alone
set_option linter.unusedVariables false
set_option linter.unusedSimpArgs false

/-- The first j bytes of a block, and noughts behind. -/
def part (s : ByteArray) (m j : Nat) : List Int := (blk s m).take j ++ List.replicate (512 - j) 0
theorem part_end (s : ByteArray) (m j : Nat) (hj : j ≤ 512) (h : j = 512 ∨ s.size ≤ 512 * m + j) : part s m j = blk s m := by
  have hl := blk_length s m
  apply List.ext_getElem?
  intro i
  unfold part
  rcases Nat.lt_or_ge i 512 with hi | hi
  · rcases Nat.lt_or_ge i j with hij | hij
    · rw [List.getElem?_append_left (by rw [List.length_take]; omega), List.getElem?_take, if_pos hij]
    · rw [List.getElem?_append_right (by rw [List.length_take]; omega), List.getElem?_replicate, if_pos (by rw [List.length_take]; omega), blk_get s m i hi, if_neg (by omega)]
  · rw [List.getElem?_eq_none (by rw [List.length_append, List.length_take, List.length_replicate]; omega), List.getElem?_eq_none (by omega)]
theorem part_step (s : ByteArray) (m j : Nat) (hj : j < 512) (h : 512 * m + j < s.size) : (part s m j).set j (bt s ((512 * m + j : Nat) : Int)) = part s m (j + 1) := by
  have hl := blk_length s m
  have hg := blk_get s m j hj
  rw [if_pos h] at hg
  unfold part
  rw [List.set_append_right _ _ (by rw [List.length_take]; omega), List.length_take, List.take_add_one, hg, show 512 - j = (512 - (j + 1)) + 1 by omega, List.replicate_succ, show j - min j (blk s m).length = 0 by omega, List.set_cons_zero]
  simp
theorem reelkeeperref03_Cut.rounds (s : ByteArray) (hs : s.size ≤ 1000000) (R : Option (List (List Int))) : ∀ (d k m j : Nat), 512 - j = d → j ≤ 512 → m < manyS s → d < k → (∀ k2, k - d - 1 ≤ k2 → reelkeeperref03_Cut.l0 k2 s (cutOf s (m + 1)) ((m : Int) + 1) = R) →
    reelkeeperref03_Cut.l1 k s (cutOf s m) (m : Int) (part s m j) (j : Int) = R := by
  intro d
  induction d with
  | zero =>
    intro k m j hd hj hm hk hR
    obtain ⟨k, rfl⟩ : ∃ q, k = q + 1 := ⟨k - 1, by omega⟩
    obtain rfl : j = 512 := by omega
    have hb : m < 2000 := by unfold manyS at hm; omega
    simp only [reelkeeperref03_Cut.l1]
    rw [if_neg (by omega), if_pos (by rw [cutOf_length]; omega), wrap_id (by omega) (by omega), part_end s m 512 (by omega) (.inl rfl), ← cutOf_succ]
    exact hR k (by omega)
  | succ d ih =>
    intro k m j hd hj hm hk hR
    obtain ⟨k, rfl⟩ : ∃ q, k = q + 1 := ⟨k - 1, by omega⟩
    have hb : m < 2000 := by unfold manyS at hm; omega
    simp only [reelkeeperref03_Cut.l1]
    rw [if_pos (by omega), show wrap64 (512 * (m : Int)) = 512 * (m : Int) from wrap_id (by omega) (by omega), show wrap64 (512 * (m : Int) + (j : Int)) = ((512 * m + j : Nat) : Int) by rw [wrap_id (by omega) (by omega)]; omega]
    by_cases h : 512 * m + j < s.size
    · have hpl : (part s m j).length = 512 := by unfold part; rw [List.length_append, List.length_take, List.length_replicate, blk_length]; omega
      rw [if_pos (by omega), if_pos (by omega), if_pos (by omega), if_pos (by omega), Int.toNat_natCast, part_step s m j (by omega) h, show wrap64 ((j : Int) + 1) = ((j + 1 : Nat) : Int) by rw [wrap_id (by omega) (by omega)]; omega]
      exact ih k m (j + 1) (by omega) (by omega) hm (by omega) (fun k2 hk2 => hR k2 (by omega))
    · rw [if_neg (by omega), if_pos (by rw [cutOf_length]; omega), wrap_id (by omega) (by omega), part_end s m j (by omega) (.inr (by omega)), ← cutOf_succ]
      exact hR k (by omega)
theorem reelkeeperref03_Cut.ends (s : ByteArray) (hs : s.size ≤ 1000000) : ∀ (d k m : Nat), manyS s - m = d → m ≤ manyS s → 600 * d < k → reelkeeperref03_Cut.l0 k s (cutOf s m) (m : Int) = some (cutOf s (manyS s)) := by
  intro d
  induction d with
  | zero =>
    intro k m hd hm hk
    obtain ⟨k, rfl⟩ : ∃ q, k = q + 1 := ⟨k - 1, by omega⟩
    obtain rfl : m = manyS s := by omega
    simp only [reelkeeperref03_Cut.l0]
    rw [reelkeeperref03_Many.tells _ (by omega) (by omega), Option.bind_some, manyI_many, if_neg (by omega)]
  | succ d ih =>
    intro k m hd hm hk
    obtain ⟨k, rfl⟩ : ∃ q, k = q + 1 := ⟨k - 1, by omega⟩
    simp only [reelkeeperref03_Cut.l0]
    rw [reelkeeperref03_Many.tells _ (by omega) (by omega), Option.bind_some, manyI_many, if_pos (by omega), if_pos (by omega)]
    have hp : (List.replicate 512 (0 : Int)) = part s m 0 := by unfold part; rw [List.take_zero, List.nil_append]
    rw [hp]
    exact reelkeeperref03_Cut.rounds s hs _ 512 k m 0 (by omega) (by omega) (by omega) (by omega) (fun k2 hk2 => ih k2 (m + 1) (by omega) (by omega) (by omega))
theorem reelkeeperref03_Cut.tells (s : ByteArray) (hs : s.size ≤ 1000000) : ∃ k, reelkeeperref03_Cut.f k s = some (cutOf s (manyS s)) :=
  ⟨600 * manyS s + 1, reelkeeperref03_Cut.ends s hs (manyS s) _ 0 (by omega) (by omega) (by omega)⟩

end Go.Proofs.Ytdbnglmcimckmaa.M
