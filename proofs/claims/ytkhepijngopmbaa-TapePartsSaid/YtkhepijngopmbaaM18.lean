/- Part of a claim: what some functions of the program compute, each with its contract; no condition of its own. Written by a program of this workplace (gen.py, over the print of the kit) and by hand. -/
import Derived.Test.YtkhepijngopmbaaM0
import Derived.Test.YtkhepijngopmbaaM6
import Derived.Test.YtkhepijngopmbaaM8
import Derived.Test.YtkhepijngopmbaaM9
import Derived.Test.YtkhepijngopmbaaM17
import Derived.Test.YtkhepijngopmbaaM26
namespace Go.Proofs.Ytkhepijngopmbaa.M
open Go.RowKit Go.Proofs.YtkhepijngopmbaaW.PrintWords Go.Proofs.YtkhepijngopmbaaW.PrintLast Go.Proofs.YtkhepijngopmbaaW.PrintMore
attribute [local go_sem] max2_int min2_int max_two min_two max_three min_three max_four min_four   -- for this text's walks alone
set_option linter.unusedVariables false
set_option linter.unusedSimpArgs false

theorem fillN_cons (cap : Int) (mark : Bool) (len : Nat) (r : List Int) (rs : List (List Int)) :
    fillN cap mark len (r :: rs) = if recMay r = true then (if mark = true ∨ (len : Int) = cap then (0, 8) else ((fillN cap mark (len + 1) rs).1 + 1, (fillN cap mark (len + 1) rs).2)) else (0, 1) := rfl
/-- All went in just if there is no error; the errors; where it ended. -/
theorem fillN_told (cap : Int) (mark : Bool) : ∀ (rs : List (List Int)) (len : Nat), ((fillN cap mark len rs).2 = 0 ∧ (fillN cap mark len rs).1 = rs.length) ∨ ((fillN cap mark len rs).2 = 1 ∧ (fillN cap mark len rs).1 < rs.length) ∨ ((fillN cap mark len rs).2 = 8 ∧ (fillN cap mark len rs).1 < rs.length ∧ (mark = true ∨ ((len + (fillN cap mark len rs).1 : Nat) : Int) = cap))
  | [], len => .inl ⟨rfl, rfl⟩
  | r :: rs, len => by
    rw [fillN_cons]
    by_cases h1 : recMay r = true
    · rw [if_pos h1]
      by_cases h2 : mark = true ∨ (len : Int) = cap
      · rw [if_pos h2]
        exact .inr (.inr ⟨rfl, by simp, by simpa using h2⟩)
      · rw [if_neg h2]
        rcases fillN_told cap mark rs (len + 1) with ⟨e, n⟩ | ⟨e, n⟩ | ⟨e, n, c⟩
        · exact .inl ⟨e, by simp [n]⟩
        · exact .inr (.inl ⟨e, by simp only [List.length_cons]; omega⟩)
        · refine .inr (.inr ⟨e, by simp only [List.length_cons]; omega, ?_⟩)
          rcases c with c | c
          · exact .inl c
          · exact .inr (by dsimp only; omega)
    · rw [if_neg h1]
      exact .inr (.inl ⟨rfl, by simp⟩)
theorem fillN_stop (cap : Int) (mark : Bool) : ∀ (a b : List (List Int)) (len : Nat), (fillN cap mark len a).2 ≠ 0 → fillN cap mark len (a ++ b) = fillN cap mark len a
  | [], b, len, h => absurd rfl h
  | r :: a, b, len, h => by
    rw [List.cons_append, fillN_cons, fillN_cons]
    rw [fillN_cons] at h
    by_cases h1 : recMay r = true
    · rw [if_pos h1, if_pos h1]
      rw [if_pos h1] at h
      by_cases h2 : mark = true ∨ (len : Int) = cap
      · rw [if_pos h2, if_pos h2]
      · rw [if_neg h2, if_neg h2]
        rw [if_neg h2] at h
        rw [fillN_stop cap mark a b (len + 1) h]
    · rw [if_neg h1, if_neg h1]
theorem fillN_on (cap : Int) (mark : Bool) : ∀ (a b : List (List Int)) (len : Nat), (fillN cap mark len a).2 = 0 → fillN cap mark len (a ++ b) = (a.length + (fillN cap mark (len + a.length) b).1, (fillN cap mark (len + a.length) b).2)
  | [], b, len, _ => by simp
  | r :: a, b, len, h => by
    rw [List.cons_append, fillN_cons]
    rw [fillN_cons] at h
    by_cases h1 : recMay r = true
    · rw [if_pos h1]
      rw [if_pos h1] at h
      by_cases h2 : mark = true ∨ (len : Int) = cap
      · rw [if_pos h2] at h; exact absurd h (by decide)
      · rw [if_neg h2]
        rw [if_neg h2] at h
        rw [fillN_on cap mark a b (len + 1) h]
        simp only [List.length_cons]
        rw [show len + 1 + a.length = len + (a.length + 1) by omega]
        exact Prod.ext (by simp only; omega) rfl
    · rw [if_neg h1] at h; exact absurd h (by decide)
theorem fillN_may (cap : Int) (mark : Bool) : ∀ (rs l : List (List Int)), mayT cap l = true → mayT cap (l ++ rs.take (fillN cap mark l.length rs).1) = true
  | [], l, h => by simpa [fillN] using h
  | r :: rs, l, h => by
    rw [fillN_cons]
    by_cases h1 : recMay r = true
    · rw [if_pos h1]
      by_cases h2 : mark = true ∨ (l.length : Int) = cap
      · rw [if_pos h2]; simpa using h
      · rw [if_neg h2]
        have h3 := fillN_may cap mark rs (l ++ [r]) (mayT_snoc h h1 (fun e => h2 (.inr e)))
        rw [List.length_append, List.length_singleton] at h3
        simp only [List.take_succ_cons]
        rw [show l ++ r :: rs.take (fillN cap mark (l.length + 1) rs).1 = l ++ [r] ++ rs.take (fillN cap mark (l.length + 1) rs).1 by simp]
        exact h3
    · rw [if_neg h1]; simpa using h
theorem sized_join {l p : List (List Int)} (h : sized l) (h' : sized p) (hl : l.length + p.length ≤ 1000) : sized (l ++ p) :=
  ⟨by rw [List.length_append]; exact hl, by rw [List.all_append, h.2, h'.2]; rfl⟩
theorem tape_Fill.tells (a : Int) (l : List (List Int)) (b : Bool) (rs : List (List Int)) (h : sized l) (h' : sized rs) : tape_Fill.f a l b rs = some (fillT a l b rs) := by
  unfold tape_Fill.f
  exact if_pos ⟨h, h'⟩
theorem same_rows (l : List (List Int)) : reelkeeperref03_Same.f l l = some true := by unfold reelkeeperref03_Same.f; rw [decide_eq_true rfl]

end Go.Proofs.Ytkhepijngopmbaa.M
