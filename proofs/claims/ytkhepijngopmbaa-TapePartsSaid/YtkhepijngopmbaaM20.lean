/- Part of a claim: what some functions of the program compute, each with its contract; no condition of its own. Written by a program of this workplace (gen.py, over the print of the kit) and by hand. -/
import Derived.Test.YtkhepijngopmbaaM0
import Derived.Test.YtkhepijngopmbaaM8
import Derived.Test.YtkhepijngopmbaaM19
namespace Go.Proofs.Ytkhepijngopmbaa.M
open Go.RowKit Go.Proofs.YtkhepijngopmbaaW.PrintWords Go.Proofs.YtkhepijngopmbaaW.PrintLast Go.Proofs.YtkhepijngopmbaaW.PrintMore
attribute [local go_sem] max2_int min2_int max_two min_two max_three min_three max_four min_four   -- for this text's walks alone
set_option linter.unusedVariables false
set_option linter.unusedSimpArgs false

theorem reelkeeperlaw11_FewRecs.ends (l : List (List Int)) (hm : l.length ≤ 9223372036854775807) (d : Nat) : ∀ (k : Nat) (s i : Int), 0 ≤ i → i ≤ 61 → i ≤ l.length → 61 - i = d → 2 * d + 2 < k → 0 ≤ s → s ≤ 12000 * i → (∀ j, j < i.toNat → (rd_L1 l (j : Int)).length ≤ 12000) →
    ∃ b, reelkeeperlaw11_FewRecs.l0 k l s i = some b ∧ (b = true → l.length ≤ 60 ∧ ∀ j, j < l.length → (rd_L1 l (j : Int)).length ≤ 12000) := by
  induction d with
  | zero =>
    intro k s i h0 h1 h2 hd hk hs0 hs1 hj
    obtain ⟨k, rfl⟩ : ∃ m, k = m + 2 := ⟨k - 2, by omega⟩
    refine ⟨false, ?_, fun h => by cases h⟩
    simp only [reelkeeperlaw11_FewRecs.l0]
    have hl : ¬ (l.length : Int) ≤ 60 := by omega
    by_cases hlt : i < (l.length : Int)
    · rw [if_pos hlt, decide_eq_false (by omega)]; simp only [reelkeeperlaw11_FewRecs.j1]; rw [if_neg (by decide), if_neg hl]
    · rw [if_neg hlt]; simp only [reelkeeperlaw11_FewRecs.j1]; rw [if_neg (by decide), if_neg hl]
  | succ d ih =>
    intro k s i h0 h1 h2 hd hk hs0 hs1 hj
    obtain ⟨k, rfl⟩ : ∃ m, k = m + 2 := ⟨k - 2, by omega⟩
    simp only [reelkeeperlaw11_FewRecs.l0]
    by_cases hlt : i < (l.length : Int)
    · rw [if_pos hlt, decide_eq_true (by omega)]
      simp only [reelkeeperlaw11_FewRecs.j1, if_true]
      rw [if_pos h0, if_pos hlt]
      by_cases h6 : ((rd_L1 l i).length : Int) > 12000
      · rw [if_pos h6]; exact ⟨false, rfl, fun h => by cases h⟩
      · rw [if_neg h6, wrap_id (x := i + 1) (by omega) (by omega), wrap_id (by omega) (by omega)]
        refine ih k (s + ((rd_L1 l i).length : Int)) (i + 1) (by omega) (by omega) (by omega) (by omega) (by omega) (by omega) (by omega) (fun j hj2 => ?_)
        by_cases e : j = i.toNat
        · subst e; rw [show ((i.toNat : Nat) : Int) = i by omega]; omega
        · exact hj j (by omega)
    · rw [if_neg hlt]
      simp only [reelkeeperlaw11_FewRecs.j1]
      rw [if_neg (by decide)]
      by_cases h7 : (l.length : Int) ≤ 60
      · rw [if_pos h7]
        exact ⟨_, rfl, fun _ => ⟨by omega, fun j hj2 => hj j (by omega)⟩⟩
      · rw [if_neg h7]
        exact ⟨false, rfl, fun h => by cases h⟩
theorem reelkeeperlaw11_FewRecs.tells (l : List (List Int)) (hm : l.length ≤ 9223372036854775807) : ∃ b, Ev (fun k => reelkeeperlaw11_FewRecs.f k l) b ∧ (b = true → l.length ≤ 60 ∧ ∀ x ∈ l, x.length ≤ 12000) := by
  obtain ⟨b, h1, h2⟩ := reelkeeperlaw11_FewRecs.ends l hm 61 200 0 0 (by omega) (by omega) (by omega) (by omega) (by omega) (by omega) (by omega) (fun j hj => by simp at hj)
  refine ⟨b, Ev.of (fun k => reelkeeperlaw11_FewRecs.mono l k) (k := 200) h1, fun hb => ⟨(h2 hb).1, fun x hx => ?_⟩⟩
  obtain ⟨j, hj, rfl⟩ := List.getElem_of_mem hx
  have := (h2 hb).2 j hj
  simpa [rd_L1, List.getD_eq_getElem?_getD, hj] using this

end Go.Proofs.Ytkhepijngopmbaa.M
