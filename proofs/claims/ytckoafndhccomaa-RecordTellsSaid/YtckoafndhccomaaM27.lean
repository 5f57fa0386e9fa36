/- Part of a claim: what some functions of the program compute, each with its contract; no condition of its own. Written by a program of this workplace (gen.py, over the print of the kit) and by hand. -/
import Derived.Test.YtckoafndhccomaaM0
import Derived.Test.YtckoafndhccomaaM3
import Derived.Test.YtckoafndhccomaaM8
import Derived.Test.YtckoafndhccomaaM11
import Derived.Test.YtckoafndhccomaaM25
import Derived.Test.YtckoafndhccomaaM26
namespace Go.Proofs.Ytckoafndhccomaa.M
open Go.RowKit Go.Proofs.YtckoafndhccomaaW.PrintWords Go.Proofs.YtckoafndhccomaaW.PrintLast Go.Proofs.YtckoafndhccomaaW.PrintMore
attribute [local go_sem] max2_int min2_int max_two min_two max_three min_three max_four min_four   -- for this text's walks alone
set_option linter.unusedVariables false
set_option linter.unusedSimpArgs false

def blocksAns (l : List (List Int)) : List (List Int) × Bool := if l.all recMay = true then (blocksOf l, true) else ([], false)
theorem blocks_ans (l : List (List Int)) (h : l.length ≤ 100000) : record_Blocks.f l = some (blocksAns l) := by
  unfold record_Blocks.f blocksAns
  rw [if_pos h]
  split <;> rfl
theorem refMay_f (r : List Int) : reelkeeperref11_May.f r = some (recMay r) := by
  unfold reelkeeperref11_May.f recMay
  by_cases h1 : (r.length : Int) ≥ 512
  · rw [if_pos h1]
    by_cases h2 : (r.length : Int) ≤ 10240
    · rw [if_pos h2]
      by_cases h3 : r.length % 512 = 0
      · rw [decide_eq_true h3, decide_eq_true (show 1 ≤ r.length / 512 by omega), decide_eq_true (show r.length / 512 ≤ 20 by omega), show ((r.length : Int) % 512) = 0 by omega]; rfl
      · rw [decide_eq_false h3, Bool.false_and]
        congr 1
        rw [beq_eq_false_iff_ne]
        omega
    · rw [if_neg h2]
      by_cases h3 : r.length % 512 = 0
      · rw [decide_eq_false (show ¬ r.length / 512 ≤ 20 by omega), Bool.and_false, Bool.and_false]
      · rw [decide_eq_false h3]; rfl
  · rw [if_neg h1]
    by_cases h3 : 1 ≤ r.length / 512
    · omega
    · rw [decide_eq_false h3, Bool.false_and, Bool.and_false]
theorem blocks_succ (l : List (List Int)) (i : Nat) (h : i < l.length) : blocksOf (l.take (i + 1)) = blocksOf (l.take i) ++ chunksOf l[i] (partsOf l[i].length 512) := by
  unfold blocksOf
  rw [List.take_add_one, List.getElem?_eq_getElem h, List.map_append, List.flatten_append]
  simp
theorem reelkeeperref11_Blocks.inner (l : List (List Int)) (hl : l.length ≤ 100000) (i : Nat) (hi : i < l.length) (hr : recMay l[i] = true) (acc : List (List Int)) (ha : acc.length ≤ 3000000) (R : Option (List (List Int) × Bool)) :
    ∀ (d k j : Nat), partsOf l[i].length 512 - j = d → j ≤ partsOf l[i].length 512 → d < k → (∀ k2, k - d - 1 ≤ k2 → reelkeeperref11_Blocks.l0 k2 l (acc ++ chunksOf l[i] (partsOf l[i].length 512)) ((i : Int) + 1) = R) → reelkeeperref11_Blocks.l1 k l (acc ++ chunksOf l[i] j) (i : Int) (j : Int) = R := by
  have hr512 : l[i].length % 512 = 0 ∧ 1 ≤ l[i].length / 512 ∧ l[i].length / 512 ≤ 20 := by
    unfold recMay at hr
    rw [Bool.and_eq_true, Bool.and_eq_true, decide_eq_true_eq, decide_eq_true_eq, decide_eq_true_eq] at hr
    exact hr
  have hp : partsOf l[i].length 512 = l[i].length / 512 := by unfold partsOf; omega
  have hrd : rd_L1 l (i : Int) = l[i] := by
    rw [rd_L1_at _ _ (by rw [Int.toNat_natCast]; exact hi)]
    rfl
  intro d
  induction d with
  | zero =>
    intro k j hd hj hk hR
    obtain ⟨k, rfl⟩ : ∃ m, k = m + 1 := ⟨k - 1, by omega⟩
    obtain rfl : j = partsOf l[i].length 512 := by omega
    simp only [reelkeeperref11_Blocks.l1]
    rw [if_pos (by omega), if_pos (by omega), hrd, wrap_id (x := (l[i].length : Int) / 512) (by omega) (by omega), if_neg (by omega), wrap_id (by omega) (by omega)]
    exact hR k (by omega)
  | succ d ih =>
    intro k j hd hj hk hR
    obtain ⟨k, rfl⟩ : ∃ m, k = m + 1 := ⟨k - 1, by omega⟩
    have h7 := ih k (j + 1) (by omega) (by omega) (by omega) (fun k2 hk2 => hR k2 (by omega))
    have hjb : 512 * j + 512 ≤ l[i].length := by omega
    have hch : ((l[i].take (512 * j + 512)).drop (512 * j)) = chunkAt l[i] j := by
      unfold chunkAt
      rw [List.drop_take, Nat.add_sub_cancel_left]
    have hcl : (chunkAt l[i] j).length = 512 := by unfold chunkAt; rw [List.length_take, List.length_drop]; omega
    have hcj : (chunksOf l[i] j).length = j := by simp [chunksOf]
    simp only [reelkeeperref11_Blocks.l1]
    rw [if_pos (by omega), if_pos (by omega), hrd, wrap_id (x := (l[i].length : Int) / 512) (by omega) (by omega), if_pos (by omega), wrap_id (x := 512 * (j : Int)) (by omega) (by omega), wrap_id (x := 512 * (j : Int) + 512) (by omega) (by omega), if_pos (by omega), if_pos (by omega), if_pos (by omega),
      show (512 * (j : Int) + 512).toNat = 512 * j + 512 by omega, show (512 * (j : Int)).toNat = 512 * j by omega, hch, hcl, if_pos (by rw [List.length_nil]; omega), if_pos (by rw [List.length_append, hcj]; omega), wrap_id (by omega) (by omega), List.nil_append, List.append_assoc, ← chunksOf_succ]
    exact h7
theorem reelkeeperref11_Blocks.ends (l : List (List Int)) (hl : l.length ≤ 100000) : ∀ (d k i : Nat), l.length - i = d → i ≤ l.length → 100 * d + 1 < k → (l.take i).all recMay = true → reelkeeperref11_Blocks.l0 k l (blocksOf (l.take i)) (i : Int) = some (blocksAns l) := by
  intro d
  induction d with
  | zero =>
    intro k i hd hi hk hall
    obtain ⟨k, rfl⟩ : ∃ m, k = m + 1 := ⟨k - 1, by omega⟩
    simp only [reelkeeperref11_Blocks.l0]
    rw [List.take_of_length_le (by omega)] at hall ⊢
    unfold blocksAns
    rw [if_neg (by omega), if_pos hall]
  | succ d ih =>
    intro k i hd hi hk hall
    obtain ⟨k, rfl⟩ : ∃ m, k = m + 1 := ⟨k - 1, by omega⟩
    have hi2 : i < l.length := by omega
    have hrd : rd_L1 l (i : Int) = l[i] := by
      rw [rd_L1_at _ _ (by rw [Int.toNat_natCast]; exact hi2)]
      rfl
    simp only [reelkeeperref11_Blocks.l0]
    rw [if_pos (by omega), if_pos (by omega), hrd, refMay_f, Option.bind_some]
    cases hr : recMay l[i] with
    | false =>
      rw [if_neg (by decide)]
      unfold blocksAns
      rw [if_neg (fun hh => by
        have := List.all_eq_true.1 hh _ (List.getElem_mem hi2)
        rw [hr] at this; cases this)]
    | true =>
      rw [if_pos rfl]
      have hle := blocks_le _ hall
      rw [List.length_take] at hle
      have e0 : blocksOf (l.take i) = blocksOf (l.take i) ++ chunksOf l[i] 0 := by simp [chunksOf]
      rw [e0]
      have hr512 : partsOf l[i].length 512 ≤ 20 := by
        have h1 := hr
        unfold recMay at h1
        rw [Bool.and_eq_true, Bool.and_eq_true, decide_eq_true_eq, decide_eq_true_eq, decide_eq_true_eq] at h1
        unfold partsOf
        omega
      refine reelkeeperref11_Blocks.inner l hl i hi2 hr _ (by omega) _ (partsOf l[i].length 512) k 0 (by omega) (by omega) (by omega) (fun k2 hk2 => ?_)
      rw [← blocks_succ l i hi2]
      refine ih k2 (i + 1) (by omega) (by omega) (by omega) ?_
      rw [List.take_add_one, List.getElem?_eq_getElem hi2, List.all_append, hall]
      simp [hr]
theorem reelkeeperref11_Blocks.tells (l : List (List Int)) (hl : l.length ≤ 60) : Ev (fun k => reelkeeperref11_Blocks.f k l) (blocksAns l) :=
  Ev.of (fun k => reelkeeperref11_Blocks.mono l k) (k := 10000) (reelkeeperref11_Blocks.ends l (by omega) l.length 10000 0 (by omega) (by omega) (by omega) (by simp))

end Go.Proofs.Ytckoafndhccomaa.M
