/- Part of a claim: what some functions of the program compute, each with its contract; no condition of its own. Written by a program of this workplace (gen.py, over the print of the kit) and by hand. -/
import Derived.Test.YtdbnglmcimckmaaM0
import Derived.Test.YtdbnglmcimckmaaM7
import Derived.Test.YtdbnglmcimckmaaM13
import Derived.Test.YtdbnglmcimckmaaM15
import Derived.Test.YtdbnglmcimckmaaM18
import Derived.Test.YtdbnglmcimckmaaM21
import Derived.Test.YtdbnglmcimckmaaM23
namespace Go.Proofs.Ytdbnglmcimckmaa.M
open Go.RowKit Go.Proofs.YtdbnglmcimckmaaW.PrintWords Go.Proofs.YtdbnglmcimckmaaW.PrintLast Go.Proofs.YtdbnglmcimckmaaW.PrintMore
attribute [local go_sem] max2_int min2_int max_two min_two max_three min_three max_four min_four   -- for this text's walks alone
set_option linter.unusedVariables false
set_option linter.unusedSimpArgs false

/-! ### reelkeeperlaw03_BlockZeros: function 7 -/
def reelkeeperlaw03_BlockZeros.j0 : Nat → Int → Int → Bool → Bool → Option (Bool)
  | 0, _, _, _, _ => none
  | k + 1, x0, x1, x5, x18 => if x18 = true then (some x5) else ((block_Zeros.f k x0).bind fun t210 => (if 0 ≤ (wrap64 (512 * x0)) then (if (wrap64 (512 * x0) : Int).toNat ≤ 281474976710656 then ((block_Cut.f (strOfNums (List.replicate (wrap64 (512 * x0) : Int).toNat 0))).bind fun t216 => (if (t210.length : Int) = x0 then ((block_May.f t210).bind fun t219 => (if t219 = true then ((block_Same.f t210 t216).bind fun t220 => (if t220 = true then (if x1 < 0 then ((block_Zeros.f k 0).bind fun t221 => (if (t221.length : Int) = 0 then ((block_Zeros.f k 401).bind fun t224 => (some ((t224.length : Int) == 0))) else (none))) else (if x1 ≥ x0 then ((block_Zeros.f k 0).bind fun t227 => (if (t227.length : Int) = 0 then ((block_Zeros.f k 401).bind fun t230 => (some ((t230.length : Int) == 0))) else (none))) else (if 0 ≤ x1 then (if x1 < (t210.length : Int) then ((block_Zero.f (rd_L1 t210 x1)).bind fun t234 => (if t234 = true then ((block_Zeros.f k 0).bind fun t235 => (if (t235.length : Int) = 0 then ((block_Zeros.f k 401).bind fun t238 => (some ((t238.length : Int) == 0))) else (none))) else (none))) else (none)) else (none)))) else (none))) else (none))) else (none))) else (none)) else (none)))
def reelkeeperlaw03_BlockZeros.f (k : Nat) (a0 : Int) (a1 : Int) : Option (Bool) := (reelkeeperlaw03_awake.f k).bind fun t209 => (if t209 = true then (if a0 < 1 then (reelkeeperlaw03_BlockZeros.j0 k a0 a1 t209 true) else (reelkeeperlaw03_BlockZeros.j0 k a0 a1 t209 (decide (a0 > 60)))) else (reelkeeperlaw03_BlockZeros.j0 k a0 a1 t209 true))
theorem reelkeeperlaw03_BlockZeros.mono_l : ∀ k, (∀ y0 y1 y2 y3, LeO (reelkeeperlaw03_BlockZeros.j0 k y0 y1 y2 y3) (reelkeeperlaw03_BlockZeros.j0 (k + 1) y0 y1 y2 y3))
  | 0 => fun _ _ _ _ r h => by simp [reelkeeperlaw03_BlockZeros.j0] at h
  | k + 1 => by
    have ih0 := reelkeeperlaw03_BlockZeros.mono_l k
    · intro y0 y1 y2 y3
      unfold reelkeeperlaw03_BlockZeros.j0
      repeat' first
      | (with_reducible exact ih0 _ _ _ _)
      | (with_reducible exact block_Zeros.mono _ _)
      | (with_reducible exact reelkeeperlaw03_awake.mono _)
      | (with_reducible exact LeO.refl _)
      | (with_reducible exact LeO.none _)
      | (with_reducible refine LeO.ite ?_ ?_)
      | (with_reducible refine LeO.bind ?_ (fun _ => ?_))
      | exact ih0 _ _ _ _
      | exact block_Zeros.mono _ _
      | exact reelkeeperlaw03_awake.mono _
      | exact LeO.none _
      | refine LeO.ite ?_ ?_
      | refine LeO.bind ?_ (fun _ => ?_)
theorem reelkeeperlaw03_BlockZeros.mono : ∀ a0 a1 k, LeO (reelkeeperlaw03_BlockZeros.f k a0 a1) (reelkeeperlaw03_BlockZeros.f (k + 1) a0 a1) := by
  intro a0 a1 k
  have ih0 := reelkeeperlaw03_BlockZeros.mono_l k
  unfold reelkeeperlaw03_BlockZeros.f
  repeat' first
      | (with_reducible exact ih0 _ _ _ _)
      | (with_reducible exact block_Zeros.mono _ _)
      | (with_reducible exact reelkeeperlaw03_awake.mono _)
      | (with_reducible exact LeO.refl _)
      | (with_reducible exact LeO.none _)
      | (with_reducible refine LeO.ite ?_ ?_)
      | (with_reducible refine LeO.bind ?_ (fun _ => ?_))
      | exact ih0 _ _ _ _
      | exact block_Zeros.mono _ _
      | exact reelkeeperlaw03_awake.mono _
      | exact LeO.none _
      | refine LeO.ite ?_ ?_
      | refine LeO.bind ?_ (fun _ => ?_)
set_option maxHeartbeats 8000000 in
set_option maxRecDepth 100000 in
theorem reelkeeperlaw03_BlockZeros.calls (k : Nat) (a0 : Int) (a1 : Int) (r : Bool) (w : World) (h : reelkeeperlaw03_BlockZeros.f k a0 a1 = some r) :
    Calls Try.prog 7 #[.int .i64 a0, .int .i64 a1] w fun e w' => e = .returned (.bool r) ∧ Below w.heap.size w w' := by
  have HB := Aside0.mk (Below.refl w.heap.size w)
  have H : ((reelkeeperlaw03_awake.f k).bind fun t209 => (if t209 = true then (if a0 < 1 then (reelkeeperlaw03_BlockZeros.j0 k a0 a1 t209 true) else (reelkeeperlaw03_BlockZeros.j0 k a0 a1 t209 (decide (a0 > 60)))) else (reelkeeperlaw03_BlockZeros.j0 k a0 a1 t209 true))) = some r := h
  clear h
  replace H := Option.bind_eq_some_iff.mp H
  obtain ⟨t209, A30, H⟩ := H
  replace H : (if t209 = true then (if a0 < 1 then (reelkeeperlaw03_BlockZeros.j0 k a0 a1 t209 true) else (reelkeeperlaw03_BlockZeros.j0 k a0 a1 t209 (decide (a0 > 60)))) else (reelkeeperlaw03_BlockZeros.j0 k a0 a1 t209 true)) = some r := H
  have A3 := Aside0.mk A30
  clear A30
  have HC4 := Aside0.mk H
  clear H
  go_enter Try.func7, Try.ntmps7
  go_upto_region 2 with (first | ((with_reducible refine gate_callee (f := 10) rfl ?_); refine goesL_ (some 8) rfl rfl Try.func10 (by kernel_rfl) rfl #[] rfl (by (try simp only [List.map_toArray, List.map_cons, List.map_nil]); first | done | rfl | (simp only [List.length_drop, List.length_take]; rfl)) ?_; (with_reducible refine (reelkeeperlaw03_awake.calls k  t209 _ A3.out).mono ?_); rintro e w5 ⟨rfl, hb⟩; refine ⟨_, rfl, ?_⟩; have n0_ := Aside0.mk (below_step (by repeat (first | (with_reducible first | exact HB.out | apply below_alloc | apply pw_below_drewN | apply below_drew1) | exact HB.out)) hb); clear HB; have HB := n0_; clear n0_; (try clear hb); (try clear hb2); (try clear hk); (try clear hi)))
  (try simp only [Act.put, List.setIfInBounds_toArray, List.set_cons_zero, List.set_cons_succ])
  go_cut [18] (fun v18 wc => ∃ (kq : Nat) (x18_3 : Bool), v18 = .bool x18_3 ∧ Aside0 (reelkeeperlaw03_BlockZeros.j0 kq a0 a1 t209 x18_3 = some r) ∧ Aside0 (kq ≤ k) ∧ Aside0 (Below w.heap.size w wc))
  case first =>
    have H := HC4.out
    clear HC4
    by_cases c6 : t209 = true
    · subst c6
      have H1 : (if a0 < 1 then (reelkeeperlaw03_BlockZeros.j0 k a0 a1 true true) else (reelkeeperlaw03_BlockZeros.j0 k a0 a1 true (decide (a0 > 60)))) = some r := by rw [if_pos rfl] at H; exact H
      clear H
      have H := H1
      clear H1
      by_cases c7 : a0 < 1
      · rw [if_pos c7] at H
        have c7b0 : decide (a0 < 1) = true := decide_eq_true c7
        clear c7
        (first | rw [c7b0] | (simp only [i64_w, i32_w]; rw [c7b0]) | skip)
        have H' := Aside0.mk H
        clear H
        go_wp2
        go_meet
        case rel => exact ⟨_, (true), (by first | rfl | (simp; done) | (simp [*]; done)), H', ⟨by first | omega | exact Nat.le_refl _⟩, ⟨by repeat (first | (with_reducible first | exact HB.out | apply below_alloc | apply pw_below_drewN | apply below_drew1) | exact HB.out)⟩⟩
      · rw [if_neg c7] at H
        have c7b0 : decide (a0 < 1) = false := decide_eq_false c7
        clear c7
        (first | rw [c7b0] | (simp only [i64_w, i32_w]; rw [c7b0]) | skip)
        have H' := Aside0.mk H
        clear H
        go_wp2
        go_meet
        case rel => exact ⟨_, (decide (a0 > 60)), (by first | rfl | (simp; done) | (simp [*]; done)), H', ⟨by first | omega | exact Nat.le_refl _⟩, ⟨by repeat (first | (with_reducible first | exact HB.out | apply below_alloc | apply pw_below_drewN | apply below_drew1) | exact HB.out)⟩⟩
    · replace c6 := Bool.eq_false_iff.mpr c6
      subst c6
      have H1 : (reelkeeperlaw03_BlockZeros.j0 k a0 a1 false true) = some r := by rw [if_neg (show ¬ (false = true) by decide)] at H; exact H
      clear H
      have H := H1
      clear H1
      have H' := Aside0.mk H
      clear H
      go_wp2
      go_meet
      case rel => exact ⟨_, (true), (by first | rfl | (simp; done) | (simp [*]; done)), H', ⟨by first | omega | exact Nat.le_refl _⟩, ⟨by repeat (first | (with_reducible first | exact HB.out | apply below_alloc | apply pw_below_drewN | apply below_drew1) | exact HB.out)⟩⟩
  case rest =>
    clear HC4
    try clear c1
    try clear p2
    try clear c6
    try clear c7
    try clear c7b0
    obtain ⟨kq, x18_3, rfl, HA, HJ3, HB⟩ := hcut
    cases kq with
    | zero => exact absurd HA.out (by simp [reelkeeperlaw03_BlockZeros.j0])
    | succ kj3 =>
      have H := HA.out
      clear HA
      simp only [reelkeeperlaw03_BlockZeros.j0] at H
      by_cases c8 : x18_3 = true
      · subst c8
        have H1 : (some t209) = some r := by rw [if_pos rfl] at H; exact H
        clear H
        have H := H1
        clear H1
        obtain rfl := Option.some.inj H
        go_wp2
        go_ret
        exact ⟨by first | rfl | (simp [errW_none, errW_some] <;> rfl) | (simp [*, errW_none, errW_some] <;> rfl), by repeat (first | (with_reducible first | exact HB.out | apply below_alloc | apply pw_below_drewN | apply below_drew1) | exact HB.out)⟩
      · replace c8 := Bool.eq_false_iff.mpr c8
        subst c8
        have H1 : ((block_Zeros.f kj3 a0).bind fun t210 => (if 0 ≤ (wrap64 (512 * a0)) then (if (wrap64 (512 * a0) : Int).toNat ≤ 281474976710656 then ((block_Cut.f (strOfNums (List.replicate (wrap64 (512 * a0) : Int).toNat 0))).bind fun t216 => (if (t210.length : Int) = a0 then ((block_May.f t210).bind fun t219 => (if t219 = true then ((block_Same.f t210 t216).bind fun t220 => (if t220 = true then (if a1 < 0 then ((block_Zeros.f kj3 0).bind fun t221 => (if (t221.length : Int) = 0 then ((block_Zeros.f kj3 401).bind fun t224 => (some ((t224.length : Int) == 0))) else (none))) else (if a1 ≥ a0 then ((block_Zeros.f kj3 0).bind fun t227 => (if (t227.length : Int) = 0 then ((block_Zeros.f kj3 401).bind fun t230 => (some ((t230.length : Int) == 0))) else (none))) else (if 0 ≤ a1 then (if a1 < (t210.length : Int) then ((block_Zero.f (rd_L1 t210 a1)).bind fun t234 => (if t234 = true then ((block_Zeros.f kj3 0).bind fun t235 => (if (t235.length : Int) = 0 then ((block_Zeros.f kj3 401).bind fun t238 => (some ((t238.length : Int) == 0))) else (none))) else (none))) else (none)) else (none)))) else (none))) else (none))) else (none))) else (none)) else (none))) = some r := by rw [if_neg (show ¬ (false = true) by decide)] at H; exact H
        clear H
        have H := H1
        clear H1
        replace H := Option.bind_eq_some_iff.mp H
        obtain ⟨t210, A90, H⟩ := H
        replace H : (if 0 ≤ (wrap64 (512 * a0)) then (if (wrap64 (512 * a0) : Int).toNat ≤ 281474976710656 then ((block_Cut.f (strOfNums (List.replicate (wrap64 (512 * a0) : Int).toNat 0))).bind fun t216 => (if (t210.length : Int) = a0 then ((block_May.f t210).bind fun t219 => (if t219 = true then ((block_Same.f t210 t216).bind fun t220 => (if t220 = true then (if a1 < 0 then ((block_Zeros.f kj3 0).bind fun t221 => (if (t221.length : Int) = 0 then ((block_Zeros.f kj3 401).bind fun t224 => (some ((t224.length : Int) == 0))) else (none))) else (if a1 ≥ a0 then ((block_Zeros.f kj3 0).bind fun t227 => (if (t227.length : Int) = 0 then ((block_Zeros.f kj3 401).bind fun t230 => (some ((t230.length : Int) == 0))) else (none))) else (if 0 ≤ a1 then (if a1 < (t210.length : Int) then ((block_Zero.f (rd_L1 t210 a1)).bind fun t234 => (if t234 = true then ((block_Zeros.f kj3 0).bind fun t235 => (if (t235.length : Int) = 0 then ((block_Zeros.f kj3 401).bind fun t238 => (some ((t238.length : Int) == 0))) else (none))) else (none))) else (none)) else (none)))) else (none))) else (none))) else (none))) else (none)) else (none)) = some r := H
        have A9 := Aside0.mk A90
        clear A90
        obtain ⟨ji10, hji10⟩ : ∃ j_ : Int, (wrap64 (512 * a0)) = j_ := ⟨_, rfl⟩
        replace H : (if 0 ≤ (ji10) then (if (ji10 : Int).toNat ≤ 281474976710656 then ((block_Cut.f (strOfNums (List.replicate (ji10 : Int).toNat 0))).bind fun t216 => (if (t210.length : Int) = a0 then ((block_May.f t210).bind fun t219 => (if t219 = true then ((block_Same.f t210 t216).bind fun t220 => (if t220 = true then (if a1 < 0 then ((block_Zeros.f kj3 0).bind fun t221 => (if (t221.length : Int) = 0 then ((block_Zeros.f kj3 401).bind fun t224 => (some ((t224.length : Int) == 0))) else (none))) else (if a1 ≥ a0 then ((block_Zeros.f kj3 0).bind fun t227 => (if (t227.length : Int) = 0 then ((block_Zeros.f kj3 401).bind fun t230 => (some ((t230.length : Int) == 0))) else (none))) else (if 0 ≤ a1 then (if a1 < (t210.length : Int) then ((block_Zero.f (rd_L1 t210 a1)).bind fun t234 => (if t234 = true then ((block_Zeros.f kj3 0).bind fun t235 => (if (t235.length : Int) = 0 then ((block_Zeros.f kj3 401).bind fun t238 => (some ((t238.length : Int) == 0))) else (none))) else (none))) else (none)) else (none)))) else (none))) else (none))) else (none))) else (none)) else (none)) = some r := by first | (rw [hji10] at H; exact H) | (simp only [hji10] at H ⊢; exact H)
        (try rw [hji10] at A9)
        have hji10w : (IntKind.i64.wrap (512 * a0)) = ji10 := (i64_w _).trans hji10
        by_cases c11 : 0 ≤ (ji10)
        · rw [if_pos c11] at H
          have c11b0 := eq_true c11
          have c11b1 : decide (0 ≤ (ji10)) = true := decide_eq_true c11
          clear c11
          by_cases c12 : (ji10 : Int).toNat ≤ 281474976710656
          · rw [if_pos c12] at H
            have c12b0 := eq_true c12
            have c12b1 : decide ((ji10 : Int).toNat ≤ 281474976710656) = true := decide_eq_true c12
            clear c12
            obtain ⟨y213, hy213⟩ : ∃ y_ : List Int, y_ = (List.replicate (ji10 : Int).toNat 0) := ⟨_, rfl⟩
            replace H : ((block_Cut.f (strOfNums y213)).bind fun t216 => (if (t210.length : Int) = a0 then ((block_May.f t210).bind fun t219 => (if t219 = true then ((block_Same.f t210 t216).bind fun t220 => (if t220 = true then (if a1 < 0 then ((block_Zeros.f kj3 0).bind fun t221 => (if (t221.length : Int) = 0 then ((block_Zeros.f kj3 401).bind fun t224 => (some ((t224.length : Int) == 0))) else (none))) else (if a1 ≥ a0 then ((block_Zeros.f kj3 0).bind fun t227 => (if (t227.length : Int) = 0 then ((block_Zeros.f kj3 401).bind fun t230 => (some ((t230.length : Int) == 0))) else (none))) else (if 0 ≤ a1 then (if a1 < (t210.length : Int) then ((block_Zero.f (rd_L1 t210 a1)).bind fun t234 => (if t234 = true then ((block_Zeros.f kj3 0).bind fun t235 => (if (t235.length : Int) = 0 then ((block_Zeros.f kj3 401).bind fun t238 => (some ((t238.length : Int) == 0))) else (none))) else (none))) else (none)) else (none)))) else (none))) else (none))) else (none))) = some r := by first | (rw [hy213]; with_reducible exact H) | (have H2_ := (Option.bind_some _ _).symm.trans H; rw [hy213]; with_reducible exact H2_) | (have H2_ := (Option.bind_some _ _).symm.trans H; with_reducible exact H2_) | with_reducible exact H | (rw [hy213]; exact H) | exact H
            have Ny213 := Aside0.mk hy213
            clear hy213
            replace H := Option.bind_eq_some_iff.mp H
            obtain ⟨t216, A130, H⟩ := H
            replace H : (if (t210.length : Int) = a0 then ((block_May.f t210).bind fun t219 => (if t219 = true then ((block_Same.f t210 t216).bind fun t220 => (if t220 = true then (if a1 < 0 then ((block_Zeros.f kj3 0).bind fun t221 => (if (t221.length : Int) = 0 then ((block_Zeros.f kj3 401).bind fun t224 => (some ((t224.length : Int) == 0))) else (none))) else (if a1 ≥ a0 then ((block_Zeros.f kj3 0).bind fun t227 => (if (t227.length : Int) = 0 then ((block_Zeros.f kj3 401).bind fun t230 => (some ((t230.length : Int) == 0))) else (none))) else (if 0 ≤ a1 then (if a1 < (t210.length : Int) then ((block_Zero.f (rd_L1 t210 a1)).bind fun t234 => (if t234 = true then ((block_Zeros.f kj3 0).bind fun t235 => (if (t235.length : Int) = 0 then ((block_Zeros.f kj3 401).bind fun t238 => (some ((t238.length : Int) == 0))) else (none))) else (none))) else (none)) else (none)))) else (none))) else (none))) else (none)) = some r := H
            have A13 := Aside0.mk A130
            clear A130
            by_cases c14 : (t210.length : Int) = a0
            · rw [if_pos c14] at H
              have c14b0 : ((t210.length : Int) == a0) = true := beq_iff_eq.mpr c14
              have c14b1 : ((t210.length : Int) != a0) = false := bne_eq_false_iff_eq.mpr c14
              clear c14
              replace H := Option.bind_eq_some_iff.mp H
              obtain ⟨t219, A150, H⟩ := H
              replace H : (if t219 = true then ((block_Same.f t210 t216).bind fun t220 => (if t220 = true then (if a1 < 0 then ((block_Zeros.f kj3 0).bind fun t221 => (if (t221.length : Int) = 0 then ((block_Zeros.f kj3 401).bind fun t224 => (some ((t224.length : Int) == 0))) else (none))) else (if a1 ≥ a0 then ((block_Zeros.f kj3 0).bind fun t227 => (if (t227.length : Int) = 0 then ((block_Zeros.f kj3 401).bind fun t230 => (some ((t230.length : Int) == 0))) else (none))) else (if 0 ≤ a1 then (if a1 < (t210.length : Int) then ((block_Zero.f (rd_L1 t210 a1)).bind fun t234 => (if t234 = true then ((block_Zeros.f kj3 0).bind fun t235 => (if (t235.length : Int) = 0 then ((block_Zeros.f kj3 401).bind fun t238 => (some ((t238.length : Int) == 0))) else (none))) else (none))) else (none)) else (none)))) else (none))) else (none)) = some r := H
              have A15 := Aside0.mk A150
              clear A150
              by_cases c16 : t219 = true
              · subst c16
                have H1 : ((block_Same.f t210 t216).bind fun t220 => (if t220 = true then (if a1 < 0 then ((block_Zeros.f kj3 0).bind fun t221 => (if (t221.length : Int) = 0 then ((block_Zeros.f kj3 401).bind fun t224 => (some ((t224.length : Int) == 0))) else (none))) else (if a1 ≥ a0 then ((block_Zeros.f kj3 0).bind fun t227 => (if (t227.length : Int) = 0 then ((block_Zeros.f kj3 401).bind fun t230 => (some ((t230.length : Int) == 0))) else (none))) else (if 0 ≤ a1 then (if a1 < (t210.length : Int) then ((block_Zero.f (rd_L1 t210 a1)).bind fun t234 => (if t234 = true then ((block_Zeros.f kj3 0).bind fun t235 => (if (t235.length : Int) = 0 then ((block_Zeros.f kj3 401).bind fun t238 => (some ((t238.length : Int) == 0))) else (none))) else (none))) else (none)) else (none)))) else (none))) = some r := by rw [if_pos rfl] at H; exact H
                clear H
                have H := H1
                clear H1
                replace H := Option.bind_eq_some_iff.mp H
                obtain ⟨t220, A170, H⟩ := H
                replace H : (if t220 = true then (if a1 < 0 then ((block_Zeros.f kj3 0).bind fun t221 => (if (t221.length : Int) = 0 then ((block_Zeros.f kj3 401).bind fun t224 => (some ((t224.length : Int) == 0))) else (none))) else (if a1 ≥ a0 then ((block_Zeros.f kj3 0).bind fun t227 => (if (t227.length : Int) = 0 then ((block_Zeros.f kj3 401).bind fun t230 => (some ((t230.length : Int) == 0))) else (none))) else (if 0 ≤ a1 then (if a1 < (t210.length : Int) then ((block_Zero.f (rd_L1 t210 a1)).bind fun t234 => (if t234 = true then ((block_Zeros.f kj3 0).bind fun t235 => (if (t235.length : Int) = 0 then ((block_Zeros.f kj3 401).bind fun t238 => (some ((t238.length : Int) == 0))) else (none))) else (none))) else (none)) else (none)))) else (none)) = some r := H
                have A17 := Aside0.mk A170
                clear A170
                by_cases c18 : t220 = true
                · subst c18
                  have H1 : (if a1 < 0 then ((block_Zeros.f kj3 0).bind fun t221 => (if (t221.length : Int) = 0 then ((block_Zeros.f kj3 401).bind fun t224 => (some ((t224.length : Int) == 0))) else (none))) else (if a1 ≥ a0 then ((block_Zeros.f kj3 0).bind fun t227 => (if (t227.length : Int) = 0 then ((block_Zeros.f kj3 401).bind fun t230 => (some ((t230.length : Int) == 0))) else (none))) else (if 0 ≤ a1 then (if a1 < (t210.length : Int) then ((block_Zero.f (rd_L1 t210 a1)).bind fun t234 => (if t234 = true then ((block_Zeros.f kj3 0).bind fun t235 => (if (t235.length : Int) = 0 then ((block_Zeros.f kj3 401).bind fun t238 => (some ((t238.length : Int) == 0))) else (none))) else (none))) else (none)) else (none)))) = some r := by rw [if_pos rfl] at H; exact H
                  clear H
                  have H := H1
                  clear H1
                  by_cases c19 : a1 < 0
                  · rw [if_pos c19] at H
                    have c19b0 : decide (a1 < 0) = true := decide_eq_true c19
                    clear c19
                    replace H := Option.bind_eq_some_iff.mp H
                    obtain ⟨t221, A200, H⟩ := H
                    replace H : (if (t221.length : Int) = 0 then ((block_Zeros.f kj3 401).bind fun t224 => (some ((t224.length : Int) == 0))) else (none)) = some r := H
                    have A20 := Aside0.mk A200
                    clear A200
                    by_cases c21 : (t221.length : Int) = 0
                    · rw [if_pos c21] at H
                      have c21b0 : ((t221.length : Int) == 0) = true := beq_iff_eq.mpr c21
                      have c21b1 : ((t221.length : Int) != 0) = false := bne_eq_false_iff_eq.mpr c21
                      clear c21
                      replace H := Option.bind_eq_some_iff.mp H
                      obtain ⟨t224, A220, H⟩ := H
                      replace H : (some ((t224.length : Int) == 0)) = some r := H
                      have A22 := Aside0.mk A220
                      clear A220
                      obtain rfl := Option.some.inj H
                      go_wp2_with (first | ((with_reducible refine gate_callee (f := 17) rfl ?_); refine goesL_ (some 21) rfl rfl Try.func17 (by kernel_rfl) rfl #[.int .i64 a0] rfl (by (try simp only [List.map_toArray, List.map_cons, List.map_nil]); first | done | rfl | (simp only [List.length_drop, List.length_take]; rfl)) ?_; (with_reducible refine (block_Zeros.calls kj3 a0 t210 _ A9.out).mono ?_); rintro e w23 ⟨v211, rfl, ho0, hb⟩; refine ⟨_, rfl, ?_⟩; have n0_ := Aside0.mk (Kd.S_lower ho0 (below_size (by repeat (first | (with_reducible first | exact HB.out | apply below_alloc | apply pw_below_drewN | apply below_drew1) | exact HB.out)))); have n1_ := Aside0.mk (below_step (by repeat (first | (with_reducible first | exact HB.out | apply below_alloc | apply pw_below_drewN | apply below_drew1) | exact HB.out)) hb); clear HB; have HO212 := n0_; have HB := n1_; clear n0_ n1_; (try clear hb); (try clear hb2); (try clear hk); (try clear hi); (try clear ho0)) | ((with_reducible refine gate_dst (N := 24) rfl ?_); (try (refine gate_guard (by rfl) ?_; dsimp only)); refine Kd.R_make (Kd.int .u8) _ 5 rfl (N := 24) rfl 31 _ _ rfl ji10 rfl rfl Try.underlying31 (.int .u8 0) 1 info5 rfl (by decide) (by omega) 0 (ok := fun _ => True) (okp := fun _ => True) rfl (fun _ hk => hk) trivial (of_decide_eq_true (by first | (with_reducible assumption) | assumption)) (Nat.le_trans (Nat.mul_le_mul_right _ (of_decide_eq_true (by first | (with_reducible assumption) | assumption) : ji10.toNat ≤ 281474976710656)) (by omega)) (Below.refl _ _) (Nat.le_refl _) ?_; intro v214 w24 ho25 hb hg_ hnew_; clear hg_ hnew_; (first | rw [← Ny213.out] at ho25 | (simp only [Int.reduceToNat] at ho25; rw [← Ny213.out] at ho25)); have n0_ := Aside0.mk (Kd.S_elder' (by (with_reducible repeat (first | apply Kd.S_alloc | apply Kd.S_drewN | apply Kd.S_drew)); exact HO212.out) (Kd.R_base ho25) hb); have n1_ := Aside0.mk (Kd.R_lower ho25 (below_size (by repeat (first | (with_reducible first | exact HB.out | apply below_alloc | apply pw_below_drewN | apply below_drew1) | exact HB.out)))); have n2_ := Aside0.mk (below_step (by repeat (first | (with_reducible first | exact HB.out | apply below_alloc | apply pw_below_drewN | apply below_drew1) | exact HB.out)) hb); clear HO212; clear HB; have HO212 := n0_; have HO215 := n1_; have HB := n2_; clear n0_ n1_ n2_; clear hb ho25; have hcv26 := own_string (P := Try.prog) Try.underlying31 Try.underlying5 Try.underlying9 (Kd.own_of_R HO215.out)) | ((with_reducible refine gate_callee (f := 15) rfl ?_); refine goesL_ (some 26) rfl rfl Try.func15 (by kernel_rfl) rfl #[.string (strOfNums y213)] rfl (by (try simp only [List.map_toArray, List.map_cons, List.map_nil]); first | done | rfl | (simp only [List.length_drop, List.length_take]; rfl)) ?_; (with_reducible refine (block_Cut.calls (strOfNums y213) t216 _ A13.out).mono ?_); rintro e w27 ⟨v217, rfl, ho0, hb⟩; refine ⟨_, rfl, ?_⟩; have n0_ := Aside0.mk (Kd.S_elder' (by (with_reducible repeat (first | apply Kd.S_alloc | apply Kd.S_drewN | apply Kd.S_drew)); exact HO212.out) (Kd.S_base ho0) hb); have n1_ := Aside0.mk (Kd.R_below (by (with_reducible repeat (first | apply Kd.R_alloc | apply Kd.R_drewN | apply Kd.R_drew)); exact HO215.out) hb); have n2_ := Aside0.mk (Kd.S_lower (Kd.S_new' (Kd.S_new' ho0 (Kd.S_lt (by (with_reducible repeat (first | apply Kd.S_alloc | apply Kd.S_drewN | apply Kd.S_drew)); exact HO212.out))) (Kd.R_lt (by (with_reducible repeat (first | apply Kd.R_alloc | apply Kd.R_drewN | apply Kd.R_drew)); exact HO215.out))) (below_size (by repeat (first | (with_reducible first | exact HB.out | apply below_alloc | apply pw_below_drewN | apply below_drew1) | exact HB.out)))); have n3_ := Aside0.mk (below_step (by repeat (first | (with_reducible first | exact HB.out | apply below_alloc | apply pw_below_drewN | apply below_drew1) | exact HB.out)) hb); clear HO212; clear HO215; clear HB; have HO212 := n0_; have HO215 := n1_; have HO218 := n2_; have HB := n3_; clear n0_ n1_ n2_ n3_; (try clear hb); (try clear hb2); (try clear hk); (try clear hi); (try clear ho0); obtain ⟨Ao28, co28, eo28⟩ := Kd.S_slice HO212.out; subst eo28) | (go_at_call 23; (with_reducible refine (block_May.calls _ _ t210 true _ ?side1 ?side2 A15.out).mono ?_); (case side1 => repeat (first | exact (Kd.S_reads' HO212.out).2.2 | (with_reducible refine Kd.C_alloc ?_ _) | (with_reducible refine Kd.C_drewN ?_ _) | (with_reducible refine Kd.C_drew ?_))); (case side2 => exact (Kd.S_reads' HO212.out).2.1); rintro e w' ⟨rfl, ⟨nd, rfl⟩⟩; obtain ⟨Ao29, co29, eo29⟩ := Kd.S_slice HO218.out; subst eo29) | (go_at_call 24; (with_reducible refine (block_Same.calls _ _ t210 _ _ t216 true _ ?side1 ?side2 ?side3 ?side4 A17.out).mono ?_); (case side1 => repeat (first | exact (Kd.S_reads' HO212.out).2.2 | (with_reducible refine Kd.C_alloc ?_ _) | (with_reducible refine Kd.C_drewN ?_ _) | (with_reducible refine Kd.C_drew ?_))); (case side2 => exact (Kd.S_reads' HO212.out).2.1); (case side3 => repeat (first | exact (Kd.S_reads' HO218.out).2.2 | (with_reducible refine Kd.C_alloc ?_ _) | (with_reducible refine Kd.C_drewN ?_ _) | (with_reducible refine Kd.C_drew ?_))); (case side4 => exact (Kd.S_reads' HO218.out).2.1); rintro e w' ⟨rfl, ⟨nd, rfl⟩⟩) | (go_at_call 17; (with_reducible refine (block_Zeros.calls kj3 0 t221 _ A20.out).mono ?_); rintro e w30 ⟨v222, rfl, ho0, hb⟩; have n0_ := Aside0.mk (Kd.S_elder' (by (with_reducible repeat (first | apply Kd.S_alloc | apply Kd.S_drewN | apply Kd.S_drew)); exact HO212.out) (Kd.S_base ho0) hb); have n1_ := Aside0.mk (Kd.R_below (by (with_reducible repeat (first | apply Kd.R_alloc | apply Kd.R_drewN | apply Kd.R_drew)); exact HO215.out) hb); have n2_ := Aside0.mk (Kd.S_elder' (by (with_reducible repeat (first | apply Kd.S_alloc | apply Kd.S_drewN | apply Kd.S_drew)); exact HO218.out) (Kd.S_base ho0) hb); have n3_ := Aside0.mk (Kd.S_lower (Kd.S_new' (Kd.S_new' (Kd.S_new' ho0 (Kd.S_lt (by (with_reducible repeat (first | apply Kd.S_alloc | apply Kd.S_drewN | apply Kd.S_drew)); exact HO212.out))) (Kd.R_lt (by (with_reducible repeat (first | apply Kd.R_alloc | apply Kd.R_drewN | apply Kd.R_drew)); exact HO215.out))) (Kd.S_lt (by (with_reducible repeat (first | apply Kd.S_alloc | apply Kd.S_drewN | apply Kd.S_drew)); exact HO218.out))) (below_size (by repeat (first | (with_reducible first | exact HB.out | apply below_alloc | apply pw_below_drewN | apply below_drew1) | exact HB.out)))); have n4_ := Aside0.mk (below_step (by repeat (first | (with_reducible first | exact HB.out | apply below_alloc | apply pw_below_drewN | apply below_drew1) | exact HB.out)) hb); clear HO212; clear HO215; clear HO218; clear HB; have HO212 := n0_; have HO215 := n1_; have HO218 := n2_; have HO223 := n3_; have HB := n4_; clear n0_ n1_ n2_ n3_ n4_; (try clear hb); (try clear hb2); (try clear hk); (try clear hi); (try clear ho0); obtain ⟨Ao31, co31, eo31⟩ := Kd.S_slice HO223.out; subst eo31) | (go_at_call 17; (with_reducible refine (block_Zeros.calls kj3 401 t224 _ A22.out).mono ?_); rintro e w32 ⟨v225, rfl, ho0, hb⟩; have n0_ := Aside0.mk (Kd.S_elder' (by (with_reducible repeat (first | apply Kd.S_alloc | apply Kd.S_drewN | apply Kd.S_drew)); exact HO212.out) (Kd.S_base ho0) hb); have n1_ := Aside0.mk (Kd.R_below (by (with_reducible repeat (first | apply Kd.R_alloc | apply Kd.R_drewN | apply Kd.R_drew)); exact HO215.out) hb); have n2_ := Aside0.mk (Kd.S_elder' (by (with_reducible repeat (first | apply Kd.S_alloc | apply Kd.S_drewN | apply Kd.S_drew)); exact HO218.out) (Kd.S_base ho0) hb); have n3_ := Aside0.mk (Kd.S_elder' (by (with_reducible repeat (first | apply Kd.S_alloc | apply Kd.S_drewN | apply Kd.S_drew)); exact HO223.out) (Kd.S_base ho0) hb); have n4_ := Aside0.mk (Kd.S_lower (Kd.S_new' (Kd.S_new' (Kd.S_new' (Kd.S_new' ho0 (Kd.S_lt (by (with_reducible repeat (first | apply Kd.S_alloc | apply Kd.S_drewN | apply Kd.S_drew)); exact HO212.out))) (Kd.R_lt (by (with_reducible repeat (first | apply Kd.R_alloc | apply Kd.R_drewN | apply Kd.R_drew)); exact HO215.out))) (Kd.S_lt (by (with_reducible repeat (first | apply Kd.S_alloc | apply Kd.S_drewN | apply Kd.S_drew)); exact HO218.out))) (Kd.S_lt (by (with_reducible repeat (first | apply Kd.S_alloc | apply Kd.S_drewN | apply Kd.S_drew)); exact HO223.out))) (below_size (by repeat (first | (with_reducible first | exact HB.out | apply below_alloc | apply pw_below_drewN | apply below_drew1) | exact HB.out)))); have n5_ := Aside0.mk (below_step (by repeat (first | (with_reducible first | exact HB.out | apply below_alloc | apply pw_below_drewN | apply below_drew1) | exact HB.out)) hb); clear HO212; clear HO215; clear HO218; clear HO223; clear HB; have HO212 := n0_; have HO215 := n1_; have HO218 := n2_; have HO223 := n3_; have HO226 := n4_; have HB := n5_; clear n0_ n1_ n2_ n3_ n4_ n5_; (try clear hb); (try clear hb2); (try clear hk); (try clear hi); (try clear ho0); obtain ⟨Ao33, co33, eo33⟩ := Kd.S_slice HO226.out; subst eo33))
                      go_ret
                      exact ⟨by first | rfl | (simp [errW_none, errW_some] <;> rfl) | (simp only [← hji10]; first | rfl | (simp [errW_none, errW_some] <;> rfl)) | (simp [*, errW_none, errW_some] <;> rfl), by repeat (first | (with_reducible first | exact HB.out | apply below_alloc | apply pw_below_drewN | apply below_drew1) | exact HB.out)⟩
                    · rw [if_neg c21] at H
                      exact absurd H (by simp)
                  · rw [if_neg c19] at H
                    have c19b0 : decide (a1 < 0) = false := decide_eq_false c19
                    clear c19
                    by_cases c34 : a1 ≥ a0
                    · rw [if_pos c34] at H
                      have c34b0 : decide (a0 ≤ a1) = true := decide_eq_true c34
                      clear c34
                      replace H := Option.bind_eq_some_iff.mp H
                      obtain ⟨t227, A350, H⟩ := H
                      replace H : (if (t227.length : Int) = 0 then ((block_Zeros.f kj3 401).bind fun t230 => (some ((t230.length : Int) == 0))) else (none)) = some r := H
                      have A35 := Aside0.mk A350
                      clear A350
                      by_cases c36 : (t227.length : Int) = 0
                      · rw [if_pos c36] at H
                        have c36b0 : ((t227.length : Int) == 0) = true := beq_iff_eq.mpr c36
                        have c36b1 : ((t227.length : Int) != 0) = false := bne_eq_false_iff_eq.mpr c36
                        clear c36
                        replace H := Option.bind_eq_some_iff.mp H
                        obtain ⟨t230, A370, H⟩ := H
                        replace H : (some ((t230.length : Int) == 0)) = some r := H
                        have A37 := Aside0.mk A370
                        clear A370
                        obtain rfl := Option.some.inj H
                        go_wp2_with (first | ((with_reducible refine gate_callee (f := 17) rfl ?_); refine goesL_ (some 21) rfl rfl Try.func17 (by kernel_rfl) rfl #[.int .i64 a0] rfl (by (try simp only [List.map_toArray, List.map_cons, List.map_nil]); first | done | rfl | (simp only [List.length_drop, List.length_take]; rfl)) ?_; (with_reducible refine (block_Zeros.calls kj3 a0 t210 _ A9.out).mono ?_); rintro e w38 ⟨v211, rfl, ho0, hb⟩; refine ⟨_, rfl, ?_⟩; have n0_ := Aside0.mk (Kd.S_lower ho0 (below_size (by repeat (first | (with_reducible first | exact HB.out | apply below_alloc | apply pw_below_drewN | apply below_drew1) | exact HB.out)))); have n1_ := Aside0.mk (below_step (by repeat (first | (with_reducible first | exact HB.out | apply below_alloc | apply pw_below_drewN | apply below_drew1) | exact HB.out)) hb); clear HB; have HO212 := n0_; have HB := n1_; clear n0_ n1_; (try clear hb); (try clear hb2); (try clear hk); (try clear hi); (try clear ho0)) | ((with_reducible refine gate_dst (N := 24) rfl ?_); (try (refine gate_guard (by rfl) ?_; dsimp only)); refine Kd.R_make (Kd.int .u8) _ 5 rfl (N := 24) rfl 31 _ _ rfl ji10 rfl rfl Try.underlying31 (.int .u8 0) 1 info5 rfl (by decide) (by omega) 0 (ok := fun _ => True) (okp := fun _ => True) rfl (fun _ hk => hk) trivial (of_decide_eq_true (by first | (with_reducible assumption) | assumption)) (Nat.le_trans (Nat.mul_le_mul_right _ (of_decide_eq_true (by first | (with_reducible assumption) | assumption) : ji10.toNat ≤ 281474976710656)) (by omega)) (Below.refl _ _) (Nat.le_refl _) ?_; intro v214 w39 ho40 hb hg_ hnew_; clear hg_ hnew_; (first | rw [← Ny213.out] at ho40 | (simp only [Int.reduceToNat] at ho40; rw [← Ny213.out] at ho40)); have n0_ := Aside0.mk (Kd.S_elder' (by (with_reducible repeat (first | apply Kd.S_alloc | apply Kd.S_drewN | apply Kd.S_drew)); exact HO212.out) (Kd.R_base ho40) hb); have n1_ := Aside0.mk (Kd.R_lower ho40 (below_size (by repeat (first | (with_reducible first | exact HB.out | apply below_alloc | apply pw_below_drewN | apply below_drew1) | exact HB.out)))); have n2_ := Aside0.mk (below_step (by repeat (first | (with_reducible first | exact HB.out | apply below_alloc | apply pw_below_drewN | apply below_drew1) | exact HB.out)) hb); clear HO212; clear HB; have HO212 := n0_; have HO215 := n1_; have HB := n2_; clear n0_ n1_ n2_; clear hb ho40; have hcv41 := own_string (P := Try.prog) Try.underlying31 Try.underlying5 Try.underlying9 (Kd.own_of_R HO215.out)) | ((with_reducible refine gate_callee (f := 15) rfl ?_); refine goesL_ (some 26) rfl rfl Try.func15 (by kernel_rfl) rfl #[.string (strOfNums y213)] rfl (by (try simp only [List.map_toArray, List.map_cons, List.map_nil]); first | done | rfl | (simp only [List.length_drop, List.length_take]; rfl)) ?_; (with_reducible refine (block_Cut.calls (strOfNums y213) t216 _ A13.out).mono ?_); rintro e w42 ⟨v217, rfl, ho0, hb⟩; refine ⟨_, rfl, ?_⟩; have n0_ := Aside0.mk (Kd.S_elder' (by (with_reducible repeat (first | apply Kd.S_alloc | apply Kd.S_drewN | apply Kd.S_drew)); exact HO212.out) (Kd.S_base ho0) hb); have n1_ := Aside0.mk (Kd.R_below (by (with_reducible repeat (first | apply Kd.R_alloc | apply Kd.R_drewN | apply Kd.R_drew)); exact HO215.out) hb); have n2_ := Aside0.mk (Kd.S_lower (Kd.S_new' (Kd.S_new' ho0 (Kd.S_lt (by (with_reducible repeat (first | apply Kd.S_alloc | apply Kd.S_drewN | apply Kd.S_drew)); exact HO212.out))) (Kd.R_lt (by (with_reducible repeat (first | apply Kd.R_alloc | apply Kd.R_drewN | apply Kd.R_drew)); exact HO215.out))) (below_size (by repeat (first | (with_reducible first | exact HB.out | apply below_alloc | apply pw_below_drewN | apply below_drew1) | exact HB.out)))); have n3_ := Aside0.mk (below_step (by repeat (first | (with_reducible first | exact HB.out | apply below_alloc | apply pw_below_drewN | apply below_drew1) | exact HB.out)) hb); clear HO212; clear HO215; clear HB; have HO212 := n0_; have HO215 := n1_; have HO218 := n2_; have HB := n3_; clear n0_ n1_ n2_ n3_; (try clear hb); (try clear hb2); (try clear hk); (try clear hi); (try clear ho0); obtain ⟨Ao43, co43, eo43⟩ := Kd.S_slice HO212.out; subst eo43) | (go_at_call 23; (with_reducible refine (block_May.calls _ _ t210 true _ ?side1 ?side2 A15.out).mono ?_); (case side1 => repeat (first | exact (Kd.S_reads' HO212.out).2.2 | (with_reducible refine Kd.C_alloc ?_ _) | (with_reducible refine Kd.C_drewN ?_ _) | (with_reducible refine Kd.C_drew ?_))); (case side2 => exact (Kd.S_reads' HO212.out).2.1); rintro e w' ⟨rfl, ⟨nd, rfl⟩⟩; obtain ⟨Ao44, co44, eo44⟩ := Kd.S_slice HO218.out; subst eo44) | (go_at_call 24; (with_reducible refine (block_Same.calls _ _ t210 _ _ t216 true _ ?side1 ?side2 ?side3 ?side4 A17.out).mono ?_); (case side1 => repeat (first | exact (Kd.S_reads' HO212.out).2.2 | (with_reducible refine Kd.C_alloc ?_ _) | (with_reducible refine Kd.C_drewN ?_ _) | (with_reducible refine Kd.C_drew ?_))); (case side2 => exact (Kd.S_reads' HO212.out).2.1); (case side3 => repeat (first | exact (Kd.S_reads' HO218.out).2.2 | (with_reducible refine Kd.C_alloc ?_ _) | (with_reducible refine Kd.C_drewN ?_ _) | (with_reducible refine Kd.C_drew ?_))); (case side4 => exact (Kd.S_reads' HO218.out).2.1); rintro e w' ⟨rfl, ⟨nd, rfl⟩⟩) | (go_at_call 17; (with_reducible refine (block_Zeros.calls kj3 0 t227 _ A35.out).mono ?_); rintro e w45 ⟨v228, rfl, ho0, hb⟩; have n0_ := Aside0.mk (Kd.S_elder' (by (with_reducible repeat (first | apply Kd.S_alloc | apply Kd.S_drewN | apply Kd.S_drew)); exact HO212.out) (Kd.S_base ho0) hb); have n1_ := Aside0.mk (Kd.R_below (by (with_reducible repeat (first | apply Kd.R_alloc | apply Kd.R_drewN | apply Kd.R_drew)); exact HO215.out) hb); have n2_ := Aside0.mk (Kd.S_elder' (by (with_reducible repeat (first | apply Kd.S_alloc | apply Kd.S_drewN | apply Kd.S_drew)); exact HO218.out) (Kd.S_base ho0) hb); have n3_ := Aside0.mk (Kd.S_lower (Kd.S_new' (Kd.S_new' (Kd.S_new' ho0 (Kd.S_lt (by (with_reducible repeat (first | apply Kd.S_alloc | apply Kd.S_drewN | apply Kd.S_drew)); exact HO212.out))) (Kd.R_lt (by (with_reducible repeat (first | apply Kd.R_alloc | apply Kd.R_drewN | apply Kd.R_drew)); exact HO215.out))) (Kd.S_lt (by (with_reducible repeat (first | apply Kd.S_alloc | apply Kd.S_drewN | apply Kd.S_drew)); exact HO218.out))) (below_size (by repeat (first | (with_reducible first | exact HB.out | apply below_alloc | apply pw_below_drewN | apply below_drew1) | exact HB.out)))); have n4_ := Aside0.mk (below_step (by repeat (first | (with_reducible first | exact HB.out | apply below_alloc | apply pw_below_drewN | apply below_drew1) | exact HB.out)) hb); clear HO212; clear HO215; clear HO218; clear HB; have HO212 := n0_; have HO215 := n1_; have HO218 := n2_; have HO229 := n3_; have HB := n4_; clear n0_ n1_ n2_ n3_ n4_; (try clear hb); (try clear hb2); (try clear hk); (try clear hi); (try clear ho0); obtain ⟨Ao46, co46, eo46⟩ := Kd.S_slice HO229.out; subst eo46) | (go_at_call 17; (with_reducible refine (block_Zeros.calls kj3 401 t230 _ A37.out).mono ?_); rintro e w47 ⟨v231, rfl, ho0, hb⟩; have n0_ := Aside0.mk (Kd.S_elder' (by (with_reducible repeat (first | apply Kd.S_alloc | apply Kd.S_drewN | apply Kd.S_drew)); exact HO212.out) (Kd.S_base ho0) hb); have n1_ := Aside0.mk (Kd.R_below (by (with_reducible repeat (first | apply Kd.R_alloc | apply Kd.R_drewN | apply Kd.R_drew)); exact HO215.out) hb); have n2_ := Aside0.mk (Kd.S_elder' (by (with_reducible repeat (first | apply Kd.S_alloc | apply Kd.S_drewN | apply Kd.S_drew)); exact HO218.out) (Kd.S_base ho0) hb); have n3_ := Aside0.mk (Kd.S_elder' (by (with_reducible repeat (first | apply Kd.S_alloc | apply Kd.S_drewN | apply Kd.S_drew)); exact HO229.out) (Kd.S_base ho0) hb); have n4_ := Aside0.mk (Kd.S_lower (Kd.S_new' (Kd.S_new' (Kd.S_new' (Kd.S_new' ho0 (Kd.S_lt (by (with_reducible repeat (first | apply Kd.S_alloc | apply Kd.S_drewN | apply Kd.S_drew)); exact HO212.out))) (Kd.R_lt (by (with_reducible repeat (first | apply Kd.R_alloc | apply Kd.R_drewN | apply Kd.R_drew)); exact HO215.out))) (Kd.S_lt (by (with_reducible repeat (first | apply Kd.S_alloc | apply Kd.S_drewN | apply Kd.S_drew)); exact HO218.out))) (Kd.S_lt (by (with_reducible repeat (first | apply Kd.S_alloc | apply Kd.S_drewN | apply Kd.S_drew)); exact HO229.out))) (below_size (by repeat (first | (with_reducible first | exact HB.out | apply below_alloc | apply pw_below_drewN | apply below_drew1) | exact HB.out)))); have n5_ := Aside0.mk (below_step (by repeat (first | (with_reducible first | exact HB.out | apply below_alloc | apply pw_below_drewN | apply below_drew1) | exact HB.out)) hb); clear HO212; clear HO215; clear HO218; clear HO229; clear HB; have HO212 := n0_; have HO215 := n1_; have HO218 := n2_; have HO229 := n3_; have HO232 := n4_; have HB := n5_; clear n0_ n1_ n2_ n3_ n4_ n5_; (try clear hb); (try clear hb2); (try clear hk); (try clear hi); (try clear ho0); obtain ⟨Ao48, co48, eo48⟩ := Kd.S_slice HO232.out; subst eo48))
                        go_ret
                        exact ⟨by first | rfl | (simp [errW_none, errW_some] <;> rfl) | (simp only [← hji10]; first | rfl | (simp [errW_none, errW_some] <;> rfl)) | (simp [*, errW_none, errW_some] <;> rfl), by repeat (first | (with_reducible first | exact HB.out | apply below_alloc | apply pw_below_drewN | apply below_drew1) | exact HB.out)⟩
                      · rw [if_neg c36] at H
                        exact absurd H (by simp)
                    · rw [if_neg c34] at H
                      have c34b0 : decide (a0 ≤ a1) = false := decide_eq_false c34
                      clear c34
                      by_cases c49 : 0 ≤ a1
                      · rw [if_pos c49] at H
                        have c49b0 : decide (0 ≤ a1) = true := decide_eq_true c49
                        clear c49
                        by_cases c50 : a1 < (t210.length : Int)
                        · rw [if_pos c50] at H
                          have c50b0 : decide (a1 < (t210.length : Int)) = true := decide_eq_true c50
                          clear c50
                          replace H := Option.bind_eq_some_iff.mp H
                          obtain ⟨t234, A510, H⟩ := H
                          replace H : (if t234 = true then ((block_Zeros.f kj3 0).bind fun t235 => (if (t235.length : Int) = 0 then ((block_Zeros.f kj3 401).bind fun t238 => (some ((t238.length : Int) == 0))) else (none))) else (none)) = some r := H
                          have A51 := Aside0.mk A510
                          clear A510
                          by_cases c52 : t234 = true
                          · subst c52
                            have H1 : ((block_Zeros.f kj3 0).bind fun t235 => (if (t235.length : Int) = 0 then ((block_Zeros.f kj3 401).bind fun t238 => (some ((t238.length : Int) == 0))) else (none))) = some r := by rw [if_pos rfl] at H; exact H
                            clear H
                            have H := H1
                            clear H1
                            replace H := Option.bind_eq_some_iff.mp H
                            obtain ⟨t235, A530, H⟩ := H
                            replace H : (if (t235.length : Int) = 0 then ((block_Zeros.f kj3 401).bind fun t238 => (some ((t238.length : Int) == 0))) else (none)) = some r := H
                            have A53 := Aside0.mk A530
                            clear A530
                            by_cases c54 : (t235.length : Int) = 0
                            · rw [if_pos c54] at H
                              have c54b0 : ((t235.length : Int) == 0) = true := beq_iff_eq.mpr c54
                              have c54b1 : ((t235.length : Int) != 0) = false := bne_eq_false_iff_eq.mpr c54
                              clear c54
                              replace H := Option.bind_eq_some_iff.mp H
                              obtain ⟨t238, A550, H⟩ := H
                              replace H : (some ((t238.length : Int) == 0)) = some r := H
                              have A55 := Aside0.mk A550
                              clear A550
                              obtain rfl := Option.some.inj H
                              go_wp2_with (first | ((with_reducible refine gate_callee (f := 17) rfl ?_); refine goesL_ (some 21) rfl rfl Try.func17 (by kernel_rfl) rfl #[.int .i64 a0] rfl (by (try simp only [List.map_toArray, List.map_cons, List.map_nil]); first | done | rfl | (simp only [List.length_drop, List.length_take]; rfl)) ?_; (with_reducible refine (block_Zeros.calls kj3 a0 t210 _ A9.out).mono ?_); rintro e w56 ⟨v211, rfl, ho0, hb⟩; refine ⟨_, rfl, ?_⟩; have n0_ := Aside0.mk (Kd.S_lower ho0 (below_size (by repeat (first | (with_reducible first | exact HB.out | apply below_alloc | apply pw_below_drewN | apply below_drew1) | exact HB.out)))); have n1_ := Aside0.mk (below_step (by repeat (first | (with_reducible first | exact HB.out | apply below_alloc | apply pw_below_drewN | apply below_drew1) | exact HB.out)) hb); clear HB; have HO212 := n0_; have HB := n1_; clear n0_ n1_; (try clear hb); (try clear hb2); (try clear hk); (try clear hi); (try clear ho0)) | ((with_reducible refine gate_dst (N := 24) rfl ?_); (try (refine gate_guard (by rfl) ?_; dsimp only)); refine Kd.R_make (Kd.int .u8) _ 5 rfl (N := 24) rfl 31 _ _ rfl ji10 rfl rfl Try.underlying31 (.int .u8 0) 1 info5 rfl (by decide) (by omega) 0 (ok := fun _ => True) (okp := fun _ => True) rfl (fun _ hk => hk) trivial (of_decide_eq_true (by first | (with_reducible assumption) | assumption)) (Nat.le_trans (Nat.mul_le_mul_right _ (of_decide_eq_true (by first | (with_reducible assumption) | assumption) : ji10.toNat ≤ 281474976710656)) (by omega)) (Below.refl _ _) (Nat.le_refl _) ?_; intro v214 w57 ho58 hb hg_ hnew_; clear hg_ hnew_; (first | rw [← Ny213.out] at ho58 | (simp only [Int.reduceToNat] at ho58; rw [← Ny213.out] at ho58)); have n0_ := Aside0.mk (Kd.S_elder' (by (with_reducible repeat (first | apply Kd.S_alloc | apply Kd.S_drewN | apply Kd.S_drew)); exact HO212.out) (Kd.R_base ho58) hb); have n1_ := Aside0.mk (Kd.R_lower ho58 (below_size (by repeat (first | (with_reducible first | exact HB.out | apply below_alloc | apply pw_below_drewN | apply below_drew1) | exact HB.out)))); have n2_ := Aside0.mk (below_step (by repeat (first | (with_reducible first | exact HB.out | apply below_alloc | apply pw_below_drewN | apply below_drew1) | exact HB.out)) hb); clear HO212; clear HB; have HO212 := n0_; have HO215 := n1_; have HB := n2_; clear n0_ n1_ n2_; clear hb ho58; have hcv59 := own_string (P := Try.prog) Try.underlying31 Try.underlying5 Try.underlying9 (Kd.own_of_R HO215.out)) | ((with_reducible refine gate_callee (f := 15) rfl ?_); refine goesL_ (some 26) rfl rfl Try.func15 (by kernel_rfl) rfl #[.string (strOfNums y213)] rfl (by (try simp only [List.map_toArray, List.map_cons, List.map_nil]); first | done | rfl | (simp only [List.length_drop, List.length_take]; rfl)) ?_; (with_reducible refine (block_Cut.calls (strOfNums y213) t216 _ A13.out).mono ?_); rintro e w60 ⟨v217, rfl, ho0, hb⟩; refine ⟨_, rfl, ?_⟩; have n0_ := Aside0.mk (Kd.S_elder' (by (with_reducible repeat (first | apply Kd.S_alloc | apply Kd.S_drewN | apply Kd.S_drew)); exact HO212.out) (Kd.S_base ho0) hb); have n1_ := Aside0.mk (Kd.R_below (by (with_reducible repeat (first | apply Kd.R_alloc | apply Kd.R_drewN | apply Kd.R_drew)); exact HO215.out) hb); have n2_ := Aside0.mk (Kd.S_lower (Kd.S_new' (Kd.S_new' ho0 (Kd.S_lt (by (with_reducible repeat (first | apply Kd.S_alloc | apply Kd.S_drewN | apply Kd.S_drew)); exact HO212.out))) (Kd.R_lt (by (with_reducible repeat (first | apply Kd.R_alloc | apply Kd.R_drewN | apply Kd.R_drew)); exact HO215.out))) (below_size (by repeat (first | (with_reducible first | exact HB.out | apply below_alloc | apply pw_below_drewN | apply below_drew1) | exact HB.out)))); have n3_ := Aside0.mk (below_step (by repeat (first | (with_reducible first | exact HB.out | apply below_alloc | apply pw_below_drewN | apply below_drew1) | exact HB.out)) hb); clear HO212; clear HO215; clear HB; have HO212 := n0_; have HO215 := n1_; have HO218 := n2_; have HB := n3_; clear n0_ n1_ n2_ n3_; (try clear hb); (try clear hb2); (try clear hk); (try clear hi); (try clear ho0); obtain ⟨Ao61, co61, eo61⟩ := Kd.S_slice HO212.out; subst eo61) | (go_at_call 23; (with_reducible refine (block_May.calls _ _ t210 true _ ?side1 ?side2 A15.out).mono ?_); (case side1 => repeat (first | exact (Kd.S_reads' HO212.out).2.2 | (with_reducible refine Kd.C_alloc ?_ _) | (with_reducible refine Kd.C_drewN ?_ _) | (with_reducible refine Kd.C_drew ?_))); (case side2 => exact (Kd.S_reads' HO212.out).2.1); rintro e w' ⟨rfl, ⟨nd, rfl⟩⟩; obtain ⟨Ao62, co62, eo62⟩ := Kd.S_slice HO218.out; subst eo62) | (go_at_call 24; (with_reducible refine (block_Same.calls _ _ t210 _ _ t216 true _ ?side1 ?side2 ?side3 ?side4 A17.out).mono ?_); (case side1 => repeat (first | exact (Kd.S_reads' HO212.out).2.2 | (with_reducible refine Kd.C_alloc ?_ _) | (with_reducible refine Kd.C_drewN ?_ _) | (with_reducible refine Kd.C_drew ?_))); (case side2 => exact (Kd.S_reads' HO212.out).2.1); (case side3 => repeat (first | exact (Kd.S_reads' HO218.out).2.2 | (with_reducible refine Kd.C_alloc ?_ _) | (with_reducible refine Kd.C_drewN ?_ _) | (with_reducible refine Kd.C_drew ?_))); (case side4 => exact (Kd.S_reads' HO218.out).2.1); rintro e w' ⟨rfl, ⟨nd, rfl⟩⟩; have p233 : 0 ≤ (a1 : Int) := of_decide_eq_true (by first | (with_reducible assumption) | assumption); have q233 : a1 < (t210.length : Int) := of_decide_eq_true (by first | (with_reducible assumption) | assumption); obtain ⟨ad233, A233_0, c233_0, e233, hx233_0, hl233_0, hi233_0⟩ := at_L1 (Kd.S_reads' HO212.out).2.2 a1 p233 q233; cases e233; obtain ⟨ce233, hce233, hMe233, hcc233⟩ := Kd.S_get HO212.out [] a1 p233 (by first | exact q233 | exact of_decide_eq_true (by first | (with_reducible assumption) | assumption) | (have e_ := (Kd.S_reads' HO212.out).1; omega)); obtain ⟨ve233_0, rfl, ge233_0⟩ := hMe233; have hv233_0 := hcc233 0 _ rfl; rw [Nat.add_zero, show ((Kd.slice 5 (Kd.int .u8))).sz = 1 from rfl, Nat.mul_one] at hv233_0; replace hv233_0 := Option.some.inj (hv233_0.symm.trans hx233_0); rw [hv233_0] at ge233_0; have HL233_0 := Aside0.mk (show Kd.R (Kd.int .u8) 5 _ _ _ _ (rd_L1 t210 a1) from ge233_0); clear hv233_0 ge233_0; clear hcc233 hce233; have HR233_0 := Aside0.mk hi233_0; have HC233_0 := Aside0.mk hl233_0; clear hi233_0 hl233_0; replace p233 := eq_true p233; replace q233 := eq_true q233) | (go_at_call 25; (with_reducible refine (block_Zero.calls _ _ (rd_L1 t210 a1) true _ ?side1 ?side2 A51.out).mono ?_); (case side1 => repeat (first | exact (by repeat (first | (with_reducible exact HR233_0.out) | (with_reducible refine Kd.C_alloc ?_ _) | (with_reducible refine Kd.C_drewN ?_ _) | (with_reducible refine Kd.C_drew ?_) | exact HR233_0.out)) | (with_reducible refine Kd.C_alloc ?_ _) | (with_reducible refine Kd.C_drewN ?_ _) | (with_reducible refine Kd.C_drew ?_))); (case side2 => exact HC233_0.out); rintro e w' ⟨rfl, ⟨nd, rfl⟩⟩) | (go_at_call 17; (with_reducible refine (block_Zeros.calls kj3 0 t235 _ A53.out).mono ?_); rintro e w63 ⟨v236, rfl, ho0, hb⟩; have n0_ := Aside0.mk (Kd.S_elder' (by (with_reducible repeat (first | apply Kd.S_alloc | apply Kd.S_drewN | apply Kd.S_drew)); exact HO212.out) (Kd.S_base ho0) hb); have n1_ := Aside0.mk (Kd.R_below (by (with_reducible repeat (first | apply Kd.R_alloc | apply Kd.R_drewN | apply Kd.R_drew)); exact HO215.out) hb); have n2_ := Aside0.mk (Kd.S_elder' (by (with_reducible repeat (first | apply Kd.S_alloc | apply Kd.S_drewN | apply Kd.S_drew)); exact HO218.out) (Kd.S_base ho0) hb); have n3_ := Aside0.mk (Kd.R_below (by (with_reducible repeat (first | apply Kd.R_alloc | apply Kd.R_drewN | apply Kd.R_drew)); exact HL233_0.out) hb); have n4_ := Aside0.mk (Kd.S_lower (Kd.S_new' (Kd.S_new' (Kd.S_new' (Kd.S_new' ho0 (Kd.S_lt (by (with_reducible repeat (first | apply Kd.S_alloc | apply Kd.S_drewN | apply Kd.S_drew)); exact HO212.out))) (Kd.R_lt (by (with_reducible repeat (first | apply Kd.R_alloc | apply Kd.R_drewN | apply Kd.R_drew)); exact HO215.out))) (Kd.S_lt (by (with_reducible repeat (first | apply Kd.S_alloc | apply Kd.S_drewN | apply Kd.S_drew)); exact HO218.out))) (Kd.R_lt (by (with_reducible repeat (first | apply Kd.R_alloc | apply Kd.R_drewN | apply Kd.R_drew)); exact HL233_0.out))) (below_size (by repeat (first | (with_reducible first | exact HB.out | apply below_alloc | apply pw_below_drewN | apply below_drew1) | exact HB.out)))); have n5_ := Aside0.mk (Kd.C_below (by repeat (first | (with_reducible exact HR233_0.out) | (with_reducible refine Kd.C_alloc ?_ _) | (with_reducible refine Kd.C_drewN ?_ _) | (with_reducible refine Kd.C_drew ?_) | exact HR233_0.out)) hb); have n6_ := Aside0.mk (below_step (by repeat (first | (with_reducible first | exact HB.out | apply below_alloc | apply pw_below_drewN | apply below_drew1) | exact HB.out)) hb); clear HO212; clear HO215; clear HO218; clear HL233_0; clear HR233_0; clear HB; have HO212 := n0_; have HO215 := n1_; have HO218 := n2_; have HL233_0 := n3_; have HO237 := n4_; have HR233_0 := n5_; have HB := n6_; clear n0_ n1_ n2_ n3_ n4_ n5_ n6_; (try clear hb); (try clear hb2); (try clear hk); (try clear hi); (try clear ho0); obtain ⟨Ao64, co64, eo64⟩ := Kd.S_slice HO237.out; subst eo64) | (go_at_call 17; (with_reducible refine (block_Zeros.calls kj3 401 t238 _ A55.out).mono ?_); rintro e w65 ⟨v239, rfl, ho0, hb⟩; have n0_ := Aside0.mk (Kd.S_elder' (by (with_reducible repeat (first | apply Kd.S_alloc | apply Kd.S_drewN | apply Kd.S_drew)); exact HO212.out) (Kd.S_base ho0) hb); have n1_ := Aside0.mk (Kd.R_below (by (with_reducible repeat (first | apply Kd.R_alloc | apply Kd.R_drewN | apply Kd.R_drew)); exact HO215.out) hb); have n2_ := Aside0.mk (Kd.S_elder' (by (with_reducible repeat (first | apply Kd.S_alloc | apply Kd.S_drewN | apply Kd.S_drew)); exact HO218.out) (Kd.S_base ho0) hb); have n3_ := Aside0.mk (Kd.R_below (by (with_reducible repeat (first | apply Kd.R_alloc | apply Kd.R_drewN | apply Kd.R_drew)); exact HL233_0.out) hb); have n4_ := Aside0.mk (Kd.S_elder' (by (with_reducible repeat (first | apply Kd.S_alloc | apply Kd.S_drewN | apply Kd.S_drew)); exact HO237.out) (Kd.S_base ho0) hb); have n5_ := Aside0.mk (Kd.S_lower (Kd.S_new' (Kd.S_new' (Kd.S_new' (Kd.S_new' (Kd.S_new' ho0 (Kd.S_lt (by (with_reducible repeat (first | apply Kd.S_alloc | apply Kd.S_drewN | apply Kd.S_drew)); exact HO212.out))) (Kd.R_lt (by (with_reducible repeat (first | apply Kd.R_alloc | apply Kd.R_drewN | apply Kd.R_drew)); exact HO215.out))) (Kd.S_lt (by (with_reducible repeat (first | apply Kd.S_alloc | apply Kd.S_drewN | apply Kd.S_drew)); exact HO218.out))) (Kd.R_lt (by (with_reducible repeat (first | apply Kd.R_alloc | apply Kd.R_drewN | apply Kd.R_drew)); exact HL233_0.out))) (Kd.S_lt (by (with_reducible repeat (first | apply Kd.S_alloc | apply Kd.S_drewN | apply Kd.S_drew)); exact HO237.out))) (below_size (by repeat (first | (with_reducible first | exact HB.out | apply below_alloc | apply pw_below_drewN | apply below_drew1) | exact HB.out)))); have n6_ := Aside0.mk (Kd.C_below (by repeat (first | (with_reducible exact HR233_0.out) | (with_reducible refine Kd.C_alloc ?_ _) | (with_reducible refine Kd.C_drewN ?_ _) | (with_reducible refine Kd.C_drew ?_) | exact HR233_0.out)) hb); have n7_ := Aside0.mk (below_step (by repeat (first | (with_reducible first | exact HB.out | apply below_alloc | apply pw_below_drewN | apply below_drew1) | exact HB.out)) hb); clear HO212; clear HO215; clear HO218; clear HL233_0; clear HO237; clear HR233_0; clear HB; have HO212 := n0_; have HO215 := n1_; have HO218 := n2_; have HL233_0 := n3_; have HO237 := n4_; have HO240 := n5_; have HR233_0 := n6_; have HB := n7_; clear n0_ n1_ n2_ n3_ n4_ n5_ n6_ n7_; (try clear hb); (try clear hb2); (try clear hk); (try clear hi); (try clear ho0); obtain ⟨Ao66, co66, eo66⟩ := Kd.S_slice HO240.out; subst eo66))
                              go_ret
                              exact ⟨by first | rfl | (simp [errW_none, errW_some] <;> rfl) | (simp only [← hji10]; first | rfl | (simp [errW_none, errW_some] <;> rfl)) | (simp [*, errW_none, errW_some] <;> rfl), by repeat (first | (with_reducible first | exact HB.out | apply below_alloc | apply pw_below_drewN | apply below_drew1) | exact HB.out)⟩
                            · rw [if_neg c54] at H
                              exact absurd H (by simp)
                          · replace c52 := Bool.eq_false_iff.mpr c52
                            subst c52
                            have H1 : (none) = some r := by rw [if_neg (show ¬ (false = true) by decide)] at H; exact H
                            clear H
                            have H := H1
                            clear H1
                            exact absurd H (by simp)
                        · rw [if_neg c50] at H
                          exact absurd H (by simp)
                      · rw [if_neg c49] at H
                        exact absurd H (by simp)
                · replace c18 := Bool.eq_false_iff.mpr c18
                  subst c18
                  have H1 : (none) = some r := by rw [if_neg (show ¬ (false = true) by decide)] at H; exact H
                  clear H
                  have H := H1
                  clear H1
                  exact absurd H (by simp)
              · replace c16 := Bool.eq_false_iff.mpr c16
                subst c16
                have H1 : (none) = some r := by rw [if_neg (show ¬ (false = true) by decide)] at H; exact H
                clear H
                have H := H1
                clear H1
                exact absurd H (by simp)
            · rw [if_neg c14] at H
              exact absurd H (by simp)
          · rw [if_neg c12] at H
            exact absurd H (by simp)
        · rw [if_neg c11] at H
          exact absurd H (by simp)

/-- THE ONE PURE STATEMENT of reelkeeperlaw03_BlockZeros: yours. -/
def reelkeeperlaw03_BlockZeros.Pure : Prop := ∀ (a0 : Int) (a1 : Int), (Lit.int .i64 a0).wf = true → (Lit.int .i64 a1).wf = true → ∃ k, reelkeeperlaw03_BlockZeros.f k a0 a1 = some true
theorem reelkeeperlaw03_BlockZeros.walk (P : reelkeeperlaw03_BlockZeros.Pure) (a0 : Int) (a1 : Int) (w : World) (w0 : (Lit.int .i64 a0).wf = true) (w1 : (Lit.int .i64 a1).wf = true) :
    Calls Try.prog 7 #[.int .i64 a0, .int .i64 a1] w fun e w' => e = .returned (.bool true) ∧ Below w.heap.size w w' := by
  obtain ⟨k, h⟩ := P a0 a1 w0 w1
  refine (reelkeeperlaw03_BlockZeros.calls k a0 a1 true w h).mono ?_
  rintro e w' ⟨rfl, hd⟩
  exact ⟨rfl, hd⟩

end Go.Proofs.Ytdbnglmcimckmaa.M
