/- Part of a claim: what some functions of the program compute, each with its contract; no condition of its own. Written by a program of this workplace (gen.py, over the print of the kit) and by hand. -/
import Derived.Test.YtkhepijngopmbaaM0
import Derived.Test.YtkhepijngopmbaaM6
import Derived.Test.YtkhepijngopmbaaM8
import Derived.Test.YtkhepijngopmbaaM9
import Derived.Test.YtkhepijngopmbaaM10
import Derived.Test.YtkhepijngopmbaaM13
import Derived.Test.YtkhepijngopmbaaM14
import Derived.Test.YtkhepijngopmbaaM15
import Derived.Test.YtkhepijngopmbaaM16
import Derived.Test.YtkhepijngopmbaaM27
namespace Go.Proofs.Ytkhepijngopmbaa.M
open Go.RowKit Go.Proofs.YtkhepijngopmbaaW.PrintWords Go.Proofs.YtkhepijngopmbaaW.PrintLast Go.Proofs.YtkhepijngopmbaaW.PrintMore
attribute [local go_sem] max2_int min2_int max_two min_two max_three min_three max_four min_four   -- for this text's walks alone
set_option linter.unusedVariables false
set_option linter.unusedSimpArgs false

theorem zeros_may : recMay (List.replicate 512 0) = true := by
  unfold recMay
  rw [List.length_replicate]
  rfl
theorem reelkeeperlaw12_awake.tells : reelkeeperlaw12_awake.f = some true := by
  have hz := zeros_may
  have hzl : (List.replicate 512 (0 : Int)).length = 512 := List.length_replicate
  have hNew : tape_New.f 1 = some (1, [], false, true) := rfl
  unfold reelkeeperlaw12_awake.f
  rw [hNew, Option.bind_some, if_pos (by decide)]
  obtain ⟨z, hzz⟩ : ∃ z, List.replicate 512 (0 : Int) = z := ⟨_, rfl⟩
  rw [hzz] at hz hzl ⊢
  have hm0 : mayT 1 [] = true := rfl
  have hm1 : mayT 1 [z] = true := by unfold mayT; simp [hz]
  have s0 := sized_nil
  have s1 : sized [z] := sized_one (by omega)
  have w1 : writeT 1 [] false z = (1, [z], false, 0) := by unfold writeT; rw [if_pos hm0, if_pos hz, if_neg (by simp)]; rfl
  have w2 : writeT 1 [z] false z = (1, [z], false, 8) := by unfold writeT; rw [if_pos hm1, if_pos hz, if_pos (by simp)]
  have r0 : readT 1 [z] 0 = (z, 0) := by unfold readT; rw [if_pos hm1, if_neg (by decide), if_neg (by simp)]; rfl
  have c0 : closeT 1 [z] false = (1, [z], true, 0) := by unfold closeT; rw [if_pos hm1, if_neg (by decide)]
  have f0 : tape_Fill.f 1 [z] false [] = some (1, [z], false, 0, 0) := by
    unfold tape_Fill.f fillT
    rw [if_pos ⟨s1, s0⟩, if_pos hm1]
    simp [fillN]
  rw [tape_Write.tells _ _ _ _ s0 (by omega), w1, Option.bind_some, tape_Write.tells _ _ _ _ s1 (by omega), w2, Option.bind_some, tape_Read.tells _ _ _ _ s1, r0, Option.bind_some, tape_Close.tells _ _ _ s1, c0, Option.bind_some, f0, Option.bind_some]
  simp only [tape_May.f, hm1, tape_Same.self, Option.bind_some, hzl]
  rfl

theorem sized_few {l : List (List Int)} (h0 : l.length ≤ 60) (h1 : ∀ x ∈ l, x.length ≤ 12000) : sized l :=
  ⟨by omega, List.all_eq_true.2 (fun x hx => decide_eq_true (by have := h1 x hx; omega))⟩
theorem mayT_parts {a : Int} {l : List (List Int)} (h : mayT a l = true) : 0 ≤ a ∧ a ≤ 200 ∧ (l.length : Int) ≤ a ∧ l.all recMay = true := by
  unfold mayT at h
  simpa only [Bool.and_eq_true, decide_eq_true_eq] using h
theorem mayT_of {a : Int} {l : List (List Int)} (h0 : 0 ≤ a) (h1 : a ≤ 200) (h2 : (l.length : Int) ≤ a) (h3 : l.all recMay = true) : mayT a l = true := by
  unfold mayT
  simp only [Bool.and_eq_true, decide_eq_true_eq]
  exact ⟨h0, h1, h2, h3⟩
theorem mayT_snoc {a : Int} {l : List (List Int)} {r : List Int} (h : mayT a l = true) (hr : recMay r = true) (hn : (l.length : Int) ≠ a) : mayT a (l ++ [r]) = true := by
  obtain ⟨h0, h1, h2, h3⟩ := mayT_parts h
  refine mayT_of h0 h1 ?_ ?_
  · rw [List.length_append, List.length_singleton]; omega
  · rw [List.all_append, h3, List.all_cons, List.all_nil, hr]; rfl
theorem mayT_take {a : Int} {l : List (List Int)} (h : mayT a l = true) (n : Nat) : mayT a (l.take n) = true := by
  obtain ⟨h0, h1, h2, h3⟩ := mayT_parts h
  refine mayT_of h0 h1 ?_ ?_
  · rw [List.length_take]; omega
  · rw [List.all_eq_true] at h3 ⊢
    exact fun x hx => h3 x (List.mem_of_mem_take hx)
theorem sized_take {l : List (List Int)} (h : sized l) (n : Nat) : sized (l.take n) := by
  refine ⟨by rw [List.length_take]; have := h.1; omega, ?_⟩
  have h2 := h.2
  rw [List.all_eq_true] at h2 ⊢
  exact fun x hx => h2 x (List.mem_of_mem_take hx)
theorem rd_snoc_at (l : List (List Int)) (r : List Int) : rd_L1 (l ++ [r]) (l.length : Int) = r := by
  rw [rd_L1_at _ _ (by simp)]
  simp
theorem rd_snoc_lt (l : List (List Int)) (r : List Int) (i : Int) (h0 : 0 ≤ i) (h1 : i < (l.length : Int)) : rd_L1 (l ++ [r]) i = rd_L1 l i := by
  rw [rd_L1_at _ _ (by rw [List.length_append]; omega), rd_L1_at _ _ (by omega), List.getElem_append_left]
theorem readT_snoc {a : Int} {l : List (List Int)} {r : List Int} {i : Int} (h : mayT a l = true) (h' : mayT a (l ++ [r]) = true) (hi : i ≠ (l.length : Int)) : readT a (l ++ [r]) i = readT a l i := by
  unfold readT
  rw [if_pos h, if_pos h']
  by_cases h0 : i < 0
  · rw [if_pos h0, if_pos h0]
  · rw [if_neg h0, if_neg h0]
    by_cases h1 : i ≥ (l.length : Int)
    · rw [if_pos h1, if_pos (by rw [List.length_append, List.length_singleton]; omega)]
    · rw [if_neg h1, if_neg (by rw [List.length_append, List.length_singleton]; omega), rd_snoc_lt l r i (by omega) (by omega)]
theorem readT_last {a : Int} {l : List (List Int)} {r : List Int} (h' : mayT a (l ++ [r]) = true) : readT a (l ++ [r]) (l.length : Int) = (r, 0) := by
  unfold readT
  rw [if_pos h', if_neg (by omega), if_neg (by rw [List.length_append, List.length_singleton]; omega), rd_snoc_at]
theorem tape_Cut.tells (a : Int) (l : List (List Int)) (b : Bool) (n : Int) (hs : sized l) : tape_Cut.f a l b n = some (cutT a l b n) := by
  unfold tape_Cut.f
  exact if_pos hs

end Go.Proofs.Ytkhepijngopmbaa.M
