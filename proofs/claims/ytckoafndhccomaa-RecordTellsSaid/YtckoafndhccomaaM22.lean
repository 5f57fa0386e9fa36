/- Part of a claim: what some functions of the program compute, each with its contract; no condition of its own. Written by a program of this workplace (gen.py, over the print of the kit) and by hand. -/
import Derived.Test.YtckoafndhccomaaM0
import Derived.Test.YtckoafndhccomaaM8
import Derived.Test.YtckoafndhccomaaM13
import Derived.Test.YtckoafndhccomaaM21
namespace Go.Proofs.Ytckoafndhccomaa.M
open Go.RowKit Go.Proofs.YtckoafndhccomaaW.PrintWords Go.Proofs.YtckoafndhccomaaW.PrintLast Go.Proofs.YtckoafndhccomaaW.PrintMore
attribute [local go_sem] max2_int min2_int max_two min_two max_three min_three max_four min_four   -- for this text's walks alone
set_option linter.unusedVariables false
set_option linter.unusedSimpArgs false

theorem div_pred {n b : Int} (hb : 1 ≤ b) : (n - 1) / b + 1 = if n % b > 0 then n / b + 1 else n / b := by
  have h1 := Int.emod_add_mul_ediv n b
  have h2 := Int.emod_nonneg n (show b ≠ 0 by omega)
  have h3 := Int.emod_lt_of_pos n (show 0 < b by omega)
  by_cases h : n % b > 0
  · rw [if_pos h, show n - 1 = (n % b - 1) + b * (n / b) by omega, Int.add_mul_ediv_left _ _ (by omega), Int.ediv_eq_zero_of_lt (by omega) (by omega)]
    omega
  · rw [if_neg h]
    have h4 : n - 1 = (b - 1) + b * (n / b - 1) := by rw [Int.mul_sub]; omega
    rw [h4, Int.add_mul_ediv_left _ _ (by omega), Int.ediv_eq_zero_of_lt (by omega) (by omega)]
    omega
theorem reelkeeperref11_Many.tells (n b : Int) (h0 : -9223372036854775808 ≤ n) (h1 : n ≤ 9223372036854775807) (k : Nat) (hk : 1 ≤ k) : reelkeeperref11_Many.f k n b = some (manyR n b) := by
  obtain ⟨k, rfl⟩ : ∃ m, k = m + 1 := ⟨k - 1, by omega⟩
  unfold reelkeeperref11_Many.f manyR
  simp only [reelkeeperref11_Many.j0]
  by_cases c1 : n < 1
  · rw [if_pos c1, if_pos c1, if_pos trivial]
  · rw [if_neg c1, if_neg c1]
    by_cases c2 : b < 1
    · rw [if_pos c2, if_pos trivial, if_neg (by omega)]
    · rw [if_neg c2]
      by_cases c3 : b > 20
      · rw [if_pos (by simpa using c3), if_neg (by omega)]
      · obtain ⟨q0, q1⟩ := div_small (n := n) (b := b) (by omega) (by omega)
        rw [if_neg (by simpa using c3), if_neg (by omega), if_pos (show 1 ≤ b ∧ b ≤ 20 from ⟨by omega, by omega⟩), div_pred (by omega), Int.tmod_eq_emod_of_nonneg (by omega), Int.tdiv_eq_ediv_of_nonneg (by omega), wrap_id (x := n / b) (by omega) (by omega)]
        by_cases c4 : n % b > 0
        · have hq : n / b + 1 ≤ 9223372036854775807 := by
            by_cases hb1 : b = 1
            · subst hb1; rw [Int.emod_one] at c4; omega
            · have h5 := Int.ediv_mul_le n (show b ≠ 0 by omega)
              have h6 : n / b * 2 ≤ n / b * b := Int.mul_le_mul_of_nonneg_left (by omega) q0
              omega
          rw [if_pos c4, if_pos c4, wrap_id (by omega) hq]
        · rw [if_neg c4, if_neg c4]

/-! ### reelkeeperref03_May: function 27 -/
def reelkeeperref03_May.l0 : Nat → List (List Int) → Int → Option (Bool)
  | 0, _, _ => none
  | k + 1, x0, x3 => if x3 < (x0.length : Int) then (if 0 ≤ x3 then (if ((rd_L1 x0 x3).length : Int) = 512 then (reelkeeperref03_May.l0 k x0 (wrap64 (x3 + 1))) else (some false)) else (none)) else (some true)
def reelkeeperref03_May.f (k : Nat) (l0 : List (List Int)) : Option (Bool) := reelkeeperref03_May.l0 k l0 0
theorem reelkeeperref03_May.mono_l : ∀ k, (∀ y0 y1, LeO (reelkeeperref03_May.l0 k y0 y1) (reelkeeperref03_May.l0 (k + 1) y0 y1))
  | 0 => fun _ _ r h => by simp [reelkeeperref03_May.l0] at h
  | k + 1 => by
    have ih0 := reelkeeperref03_May.mono_l k
    · intro y0 y1
      unfold reelkeeperref03_May.l0
      repeat' first
      | (with_reducible exact ih0 _ _)
      | (with_reducible exact LeO.refl _)
      | (with_reducible exact LeO.none _)
      | (with_reducible refine LeO.ite ?_ ?_)
      | (with_reducible refine LeO.bind ?_ (fun _ => ?_))
      | exact ih0 _ _
      | exact LeO.none _
      | refine LeO.ite ?_ ?_
      | refine LeO.bind ?_ (fun _ => ?_)
theorem reelkeeperref03_May.mono : ∀ a0 k, LeO (reelkeeperref03_May.f k a0) (reelkeeperref03_May.f (k + 1) a0) := by
  intro a0 k
  have ih0 := reelkeeperref03_May.mono_l k
  unfold reelkeeperref03_May.f
  repeat' first
      | (with_reducible exact ih0 _ _)
      | (with_reducible exact LeO.refl _)
      | (with_reducible exact LeO.none _)
      | (with_reducible refine LeO.ite ?_ ?_)
      | (with_reducible refine LeO.bind ?_ (fun _ => ?_))
      | exact ih0 _ _
      | exact LeO.none _
      | refine LeO.ite ?_ ?_
      | refine LeO.bind ?_ (fun _ => ?_)
set_option maxHeartbeats 8000000 in
set_option maxRecDepth 100000 in
theorem reelkeeperref03_May.calls (k : Nat) (A0 : Option Addr) (c0 : Nat) (l0 : List (List Int)) (r : Bool) (w : World) (hr0 : Kd.C (Kd.slice 5 (Kd.int .u8)) w A0 l0.length l0) (hc0 : l0.length ≤ c0) (h : reelkeeperref03_May.f k l0 = some r) :
    Calls Try.prog 27 #[.slice A0 l0.length c0] w fun e w' => e = .returned (.bool r) ∧ Drawn0 w w' := by
  have HR0 := Aside0.mk hr0
  have HC0 := Aside0.mk hc0
  clear hr0 hc0
  have H : (reelkeeperref03_May.l0 k l0 0) = some r := h
  clear h
  have H' := Aside0.mk H
  clear H
  go_enter Try.func27, Try.ntmps27
  go_wp2
  go_loopg [3] k (fun kq v3 w' => ∃ (x3_1 : Int), v3 = .int .i64 x3_1 ∧ Aside0 (reelkeeperref03_May.l0 kq l0 x3_1 = some r) ∧ Aside0 (kq ≤ k) ∧ Drawn0 w w')
  case atStart => exact ⟨(0), (by first | rfl | (simp; done) | (simp [*]; done)), H', ⟨Nat.le_refl _⟩, by repeat (first | exact Drawn0.refl _ | apply Drawn0.step)⟩
  case round =>
    clear H'
    obtain ⟨x3_1, rfl, HA, HK1, ⟨m1, rfl⟩⟩ := hrel
    cases gk with
    | zero => exact absurd HA.out (by simp [reelkeeperref03_May.l0])
    | succ k1 =>
      have H := HA.out
      clear HA
      simp only [reelkeeperref03_May.l0] at H
      by_cases c2 : x3_1 < (l0.length : Int)
      · rw [if_pos c2] at H
        have c2b0 : decide (x3_1 < (l0.length : Int)) = true := decide_eq_true c2
        clear c2
        by_cases c3 : 0 ≤ x3_1
        · rw [if_pos c3] at H
          have c3b0 : decide (0 ≤ x3_1) = true := decide_eq_true c3
          clear c3
          by_cases c4 : ((rd_L1 l0 x3_1).length : Int) = 512
          · rw [if_pos c4] at H
            have c4b0 : (((rd_L1 l0 x3_1).length : Int) == 512) = true := beq_iff_eq.mpr c4
            have c4b1 : (((rd_L1 l0 x3_1).length : Int) != 512) = false := bne_eq_false_iff_eq.mpr c4
            clear c4
            have H' := Aside0.mk H
            clear H
            have p128 : 0 ≤ (x3_1 : Int) := of_decide_eq_true (by first | (with_reducible assumption) | assumption)
            have q128 : x3_1 < (l0.length : Int) := of_decide_eq_true (by first | (with_reducible assumption) | assumption)
            obtain ⟨ad128, A128_0, c128_0, e128, hx128_0, hl128_0, hi128_0⟩ := at_L1 HR0.out x3_1 p128 q128
            cases e128
            have HR128_0 := Aside0.mk hi128_0
            have HC128_0 := Aside0.mk hl128_0
            clear hi128_0 hl128_0
            replace p128 := eq_true p128
            replace q128 := eq_true q128
            go_wp2
            go_roundg k1
            case measure => have := HK1.out; omega
            case rel => exact ⟨(wrap64 (x3_1 + 1)), (by first | rfl | (simp; done) | (simp [*]; done)), H', ⟨by have := HK1.out; omega⟩, by repeat (first | exact Drawn0.refl _ | apply Drawn0.step)⟩
          · rw [if_neg c4] at H
            have c4b0 : (((rd_L1 l0 x3_1).length : Int) == 512) = false := beq_eq_false_iff_ne.mpr c4
            have c4b1 : (((rd_L1 l0 x3_1).length : Int) != 512) = true := bne_iff_ne.mpr c4
            obtain rfl := Option.some.inj H
            have p128 : 0 ≤ (x3_1 : Int) := of_decide_eq_true (by first | (with_reducible assumption) | assumption)
            have q128 : x3_1 < (l0.length : Int) := of_decide_eq_true (by first | (with_reducible assumption) | assumption)
            obtain ⟨ad128, A128_0, c128_0, e128, hx128_0, hl128_0, hi128_0⟩ := at_L1 HR0.out x3_1 p128 q128
            cases e128
            have HR128_0 := Aside0.mk hi128_0
            have HC128_0 := Aside0.mk hl128_0
            clear hi128_0 hl128_0
            replace p128 := eq_true p128
            replace q128 := eq_true q128
            go_wp2
            go_ret
            exact ⟨by first | rfl | (simp; done) | (simp [*]; done), by repeat (first | exact Drawn0.refl _ | apply Drawn0.step)⟩
        · rw [if_neg c3] at H
          exact absurd H (by simp)
      · rw [if_neg c2] at H
        have c2b0 : decide (x3_1 < (l0.length : Int)) = false := decide_eq_false c2
        clear c2
        obtain rfl := Option.some.inj H
        go_wp2
        go_ret
        exact ⟨by first | rfl | (simp; done) | (simp [*]; done), by repeat (first | exact Drawn0.refl _ | apply Drawn0.step)⟩

end Go.Proofs.Ytckoafndhccomaa.M
