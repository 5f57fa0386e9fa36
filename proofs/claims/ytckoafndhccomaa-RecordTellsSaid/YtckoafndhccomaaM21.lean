/- Part of a claim: what some functions of the program compute, each with its contract; no condition of its own. Written by a program of this workplace (gen.py, over the print of the kit) and by hand. -/
import Derived.Test.YtckoafndhccomaaM0
namespace Go.Proofs.Ytckoafndhccomaa.M
open Go.RowKit Go.Proofs.YtckoafndhccomaaW.PrintWords Go.Proofs.YtckoafndhccomaaW.PrintLast Go.Proofs.YtckoafndhccomaaW.PrintMore
attribute [local go_sem] max2_int min2_int max_two min_two max_three min_three max_four min_four   -- for this text's walks alone
set_option linter.unusedVariables false
set_option linter.unusedSimpArgs false

/-! ### reelkeeperref11_Many: function 20 -/
def reelkeeperref11_Many.j0 : Nat → Int → Int → Bool → Option (Int)
  | 0, _, _, _ => none
  | k + 1, x0, x1, x15 => if x15 = true then (some 0) else (if x1 = 0 then (none) else (if (Int.tmod x0 x1) > 0 then (some (wrap64 ((wrap64 (Int.tdiv x0 x1)) + 1))) else (some (wrap64 (Int.tdiv x0 x1)))))
def reelkeeperref11_Many.f (k : Nat) (a0 : Int) (a1 : Int) : Option (Int) := if a0 < 1 then (reelkeeperref11_Many.j0 k a0 a1 true) else (if a1 < 1 then (reelkeeperref11_Many.j0 k a0 a1 true) else (reelkeeperref11_Many.j0 k a0 a1 (decide (a1 > 20))))
theorem reelkeeperref11_Many.mono_l : ∀ k, (∀ y0 y1 y2, LeO (reelkeeperref11_Many.j0 k y0 y1 y2) (reelkeeperref11_Many.j0 (k + 1) y0 y1 y2))
  | 0 => fun _ _ _ r h => by simp [reelkeeperref11_Many.j0] at h
  | k + 1 => by
    have ih0 := reelkeeperref11_Many.mono_l k
    · intro y0 y1 y2
      unfold reelkeeperref11_Many.j0
      repeat' first
      | (with_reducible exact ih0 _ _ _)
      | (with_reducible exact LeO.refl _)
      | (with_reducible exact LeO.none _)
      | (with_reducible refine LeO.ite ?_ ?_)
      | (with_reducible refine LeO.bind ?_ (fun _ => ?_))
      | exact ih0 _ _ _
      | exact LeO.none _
      | refine LeO.ite ?_ ?_
      | refine LeO.bind ?_ (fun _ => ?_)
theorem reelkeeperref11_Many.mono : ∀ a0 a1 k, LeO (reelkeeperref11_Many.f k a0 a1) (reelkeeperref11_Many.f (k + 1) a0 a1) := by
  intro a0 a1 k
  have ih0 := reelkeeperref11_Many.mono_l k
  unfold reelkeeperref11_Many.f
  repeat' first
      | (with_reducible exact ih0 _ _ _)
      | (with_reducible exact LeO.refl _)
      | (with_reducible exact LeO.none _)
      | (with_reducible refine LeO.ite ?_ ?_)
      | (with_reducible refine LeO.bind ?_ (fun _ => ?_))
      | exact ih0 _ _ _
      | exact LeO.none _
      | refine LeO.ite ?_ ?_
      | refine LeO.bind ?_ (fun _ => ?_)
set_option maxHeartbeats 8000000 in
set_option maxRecDepth 100000 in
theorem reelkeeperref11_Many.calls (k : Nat) (a0 : Int) (a1 : Int) (r : Int) (w : World) (h : reelkeeperref11_Many.f k a0 a1 = some r) :
    Calls Try.prog 20 #[.int .i64 a0, .int .i64 a1] w fun e w' => e = .returned (.int .i64 r) ∧ Drawn0 w w' := by
  have H : (if a0 < 1 then (reelkeeperref11_Many.j0 k a0 a1 true) else (if a1 < 1 then (reelkeeperref11_Many.j0 k a0 a1 true) else (reelkeeperref11_Many.j0 k a0 a1 (decide (a1 > 20))))) = some r := h
  clear h
  have HC3 := Aside0.mk H
  clear H
  go_enter Try.func20, Try.ntmps20
  go_upto_region 1 with (fail)
  go_cut [15] (fun v15 wc => ∃ (kq : Nat) (x15_2 : Bool), v15 = .bool x15_2 ∧ Aside0 (reelkeeperref11_Many.j0 kq a0 a1 x15_2 = some r) ∧ Aside0 (kq ≤ k) ∧ Drawn0 w wc)
  case first =>
    have H := HC3.out
    clear HC3
    by_cases c4 : a0 < 1
    · rw [if_pos c4] at H
      have c4b0 : decide (a0 < 1) = true := decide_eq_true c4
      clear c4
      (first | rw [c4b0] | (simp only [i64_w, i32_w]; rw [c4b0]) | skip)
      have H' := Aside0.mk H
      clear H
      go_wp2
      go_meet
      case rel => exact ⟨_, (true), (by first | rfl | (simp; done) | (simp [*]; done)), H', ⟨by first | omega | exact Nat.le_refl _⟩, by repeat (first | exact Drawn0.refl _ | apply Drawn0.step)⟩
    · rw [if_neg c4] at H
      have c4b0 : decide (a0 < 1) = false := decide_eq_false c4
      clear c4
      (first | rw [c4b0] | (simp only [i64_w, i32_w]; rw [c4b0]) | skip)
      by_cases c5 : a1 < 1
      · rw [if_pos c5] at H
        have c5b0 : decide (a1 < 1) = true := decide_eq_true c5
        clear c5
        have H' := Aside0.mk H
        clear H
        go_wp2
        go_meet
        case rel => exact ⟨_, (true), (by first | rfl | (simp; done) | (simp [*]; done)), H', ⟨by first | omega | exact Nat.le_refl _⟩, by repeat (first | exact Drawn0.refl _ | apply Drawn0.step)⟩
      · rw [if_neg c5] at H
        have c5b0 : decide (a1 < 1) = false := decide_eq_false c5
        clear c5
        have H' := Aside0.mk H
        clear H
        go_wp2
        go_meet
        case rel => exact ⟨_, (decide (a1 > 20)), (by first | rfl | (simp; done) | (simp [*]; done)), H', ⟨by first | omega | exact Nat.le_refl _⟩, by repeat (first | exact Drawn0.refl _ | apply Drawn0.step)⟩
  case rest =>
    clear HC3
    try clear c2
    try clear p2
    try clear c4
    try clear c4b0
    try clear c5
    try clear c5b0
    obtain ⟨kq, x15_2, rfl, HA, HJ2, ⟨mc2, rfl⟩⟩ := hcut
    cases kq with
    | zero => exact absurd HA.out (by simp [reelkeeperref11_Many.j0])
    | succ kj2 =>
      have H := HA.out
      clear HA
      simp only [reelkeeperref11_Many.j0] at H
      by_cases c6 : x15_2 = true
      · subst c6
        have H1 : (some 0) = some r := by rw [if_pos rfl] at H; exact H
        clear H
        have H := H1
        clear H1
        obtain rfl := Option.some.inj H
        go_wp2
        go_ret
        exact ⟨by first | rfl | (simp; done) | (simp [*]; done), by repeat (first | exact Drawn0.refl _ | apply Drawn0.step)⟩
      · replace c6 := Bool.eq_false_iff.mpr c6
        subst c6
        have H1 : (if a1 = 0 then (none) else (if (Int.tmod a0 a1) > 0 then (some (wrap64 ((wrap64 (Int.tdiv a0 a1)) + 1))) else (some (wrap64 (Int.tdiv a0 a1))))) = some r := by rw [if_neg (show ¬ (false = true) by decide)] at H; exact H
        clear H
        have H := H1
        clear H1
        by_cases c7 : a1 = 0
        · rw [if_pos c7] at H
          exact absurd H (by simp)
        · rw [if_neg c7] at H
          have c7b0 : (a1 == 0) = false := beq_eq_false_iff_ne.mpr c7
          have c7b1 : (a1 != 0) = true := bne_iff_ne.mpr c7
          by_cases c8 : (Int.tmod a0 a1) > 0
          · rw [if_pos c8] at H
            have c8b0 : decide (0 < (Int.tmod a0 a1)) = true := decide_eq_true c8
            clear c8
            obtain rfl := Option.some.inj H
            go_wp2
            go_ret
            exact ⟨by first | rfl | (simp; done) | (simp [*]; done), by repeat (first | exact Drawn0.refl _ | apply Drawn0.step)⟩
          · rw [if_neg c8] at H
            have c8b0 : decide (0 < (Int.tmod a0 a1)) = false := decide_eq_false c8
            clear c8
            obtain rfl := Option.some.inj H
            go_wp2
            go_ret
            exact ⟨by first | rfl | (simp; done) | (simp [*]; done), by repeat (first | exact Drawn0.refl _ | apply Drawn0.step)⟩

end Go.Proofs.Ytckoafndhccomaa.M
