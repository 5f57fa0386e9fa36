/- Part of a claim: what some functions of the program compute, each with its contract; no condition of its own. Written by a program of this workplace (gen.py, over the print of the kit) and by hand. -/
import Derived.Test.YtkhepijngopmbaaM0
import Derived.Test.YtkhepijngopmbaaM11
import Derived.Test.YtkhepijngopmbaaM18
import Derived.Test.YtkhepijngopmbaaM20
import Derived.Test.YtkhepijngopmbaaM22
import Derived.Test.YtkhepijngopmbaaM27
import Derived.Test.YtkhepijngopmbaaM29
import Derived.Test.YtkhepijngopmbaaM31
import Derived.Test.YtkhepijngopmbaaM32
import Derived.Test.YtkhepijngopmbaaM33
namespace Go.Proofs.Ytkhepijngopmbaa.M
open Go.RowKit Go.Proofs.YtkhepijngopmbaaW.PrintWords Go.Proofs.YtkhepijngopmbaaW.PrintLast Go.Proofs.YtkhepijngopmbaaW.PrintMore
attribute [local go_sem] max2_int min2_int max_two min_two max_three min_three max_four min_four   -- for this text's walks alone
set_option linter.unusedVariables false
set_option linter.unusedSimpArgs false

theorem zeros_may : recMay (List.replicate 512 0) = true := by
  unfold recMay
  rw [List.length_replicate]
  rfl
theorem reelkeeperlaw12_awake.tells : reelkeeperlaw12_awake.f = some true := by
  have hz := zeros_may
  have hzl : (List.replicate 512 (0 : Int)).length = 512 := List.length_replicate
  have hNew : tape_New.f 1 = some (1, [], false, true) := rfl
  unfold reelkeeperlaw12_awake.f
  rw [hNew, Option.bind_some, if_pos (by decide)]
  obtain ⟨z, hzz⟩ : ∃ z, List.replicate 512 (0 : Int) = z := ⟨_, rfl⟩
  rw [hzz] at hz hzl ⊢
  have hm0 : mayT 1 [] = true := rfl
  have hm1 : mayT 1 [z] = true := by unfold mayT; simp [hz]
  have s0 := sized_nil
  have s1 : sized [z] := sized_one (by omega)
  have w1 : writeT 1 [] false z = (1, [z], false, 0) := by unfold writeT; rw [if_pos hm0, if_pos hz, if_neg (by simp)]; rfl
  have w2 : writeT 1 [z] false z = (1, [z], false, 8) := by unfold writeT; rw [if_pos hm1, if_pos hz, if_pos (by simp)]
  have r0 : readT 1 [z] 0 = (z, 0) := by unfold readT; rw [if_pos hm1, if_neg (by decide), if_neg (by simp)]; rfl
  have c0 : closeT 1 [z] false = (1, [z], true, 0) := by unfold closeT; rw [if_pos hm1, if_neg (by decide)]
  have f0 : tape_Fill.f 1 [z] false [] = some (1, [z], false, 0, 0) := by
    unfold tape_Fill.f fillT
    rw [if_pos ⟨s1, s0⟩, if_pos hm1]
    simp [fillN]
  rw [tape_Write.tells _ _ _ _ s0 (by omega), w1, Option.bind_some, tape_Write.tells _ _ _ _ s1 (by omega), w2, Option.bind_some, tape_Read.tells _ _ _ _ s1, r0, Option.bind_some, tape_Close.tells _ _ _ s1, c0, Option.bind_some, f0, Option.bind_some]
  simp only [tape_May.f, hm1, tape_Same.self, Option.bind_some, hzl]
  rfl

end Go.Proofs.Ytkhepijngopmbaa.M
