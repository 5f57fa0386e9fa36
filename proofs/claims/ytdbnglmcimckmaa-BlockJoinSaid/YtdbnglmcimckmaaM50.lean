/- Part of a claim: what some functions of the program compute, each with its contract; no condition of its own. Written by a program of this workplace (gen.py, over the print of the kit) and by hand. -/
import Derived.Test.YtdbnglmcimckmaaM0
import Derived.Test.YtdbnglmcimckmaaM14
import Derived.Test.YtdbnglmcimckmaaM16
import Derived.Test.YtdbnglmcimckmaaM28
import Derived.Test.YtdbnglmcimckmaaM38
namespace Go.Proofs.Ytdbnglmcimckmaa.M
open Go.RowKit Go.Proofs.YtdbnglmcimckmaaW.PrintWords Go.Proofs.YtdbnglmcimckmaaW.PrintLast Go.Proofs.YtdbnglmcimckmaaW.PrintMore
attribute [local go_sem] max2_int min2_int max_two min_two max_three min_three max_four min_four   -- for this text's walks alone
set_option linter.unusedVariables false
set_option linter.unusedSimpArgs false

/-! ### reelkeeperlaw03_BlockJoin: function 8 -/
def reelkeeperlaw03_BlockJoin.j0 : Nat → ByteArray → ByteArray → Bool → Bool → Option (Bool)
  | 0, _, _, _, _ => none
  | k + 1, x0, x1, x5, x27 => if x27 = true then (some x5) else (if x0.size + x1.size ≤ 9223372036854775807 then ((block_Cut.f (x0 ++ x1)).bind fun t242 => ((block_Cut.f x0).bind fun t245 => (if ([] : List (List Int)).length + t245.length < 5864062014805 then ((some (([] : List (List Int)) ++ t245 : List (List Int))).bind fun y248 => ((block_Cut.f x1).bind fun t251 => (if y248.length + t251.length < 5864062014805 then ((reelkeeperref03_Same.f t242 (y248 ++ t251)).bind fun t257 => ((block_Cut.f (x0 ++ x1)).bind fun t258 => ((block_Text.f t258 ((x0.size : Int) + (x1.size : Int))).bind fun bt261 => (if t257 = true then (if bt261.2 = true then (some (bt261.1.toList == (x0 ++ x1).toList)) else (none)) else (none))))) else (none)))) else (none)))) else (none))
def reelkeeperlaw03_BlockJoin.f (k : Nat) (a0 : ByteArray) (a1 : ByteArray) : Option (Bool) := (reelkeeperlaw03_awake.f k).bind fun t241 => (if t241 = true then (if (a0.size : Int) > 2500 then (reelkeeperlaw03_BlockJoin.j0 k a0 a1 t241 true) else (if (a1.size : Int) > 2500 then (reelkeeperlaw03_BlockJoin.j0 k a0 a1 t241 true) else (reelkeeperlaw03_BlockJoin.j0 k a0 a1 t241 (((a0.size : Int) % 512) != 0)))) else (reelkeeperlaw03_BlockJoin.j0 k a0 a1 t241 true))
theorem reelkeeperlaw03_BlockJoin.mono_l : ∀ k, (∀ y0 y1 y2 y3, LeO (reelkeeperlaw03_BlockJoin.j0 k y0 y1 y2 y3) (reelkeeperlaw03_BlockJoin.j0 (k + 1) y0 y1 y2 y3))
  | 0 => fun _ _ _ _ r h => by simp [reelkeeperlaw03_BlockJoin.j0] at h
  | k + 1 => by
    have ih0 := reelkeeperlaw03_BlockJoin.mono_l k
    · intro y0 y1 y2 y3
      unfold reelkeeperlaw03_BlockJoin.j0
      repeat' first
      | (with_reducible exact ih0 _ _ _ _)
      | (with_reducible exact reelkeeperlaw03_awake.mono _)
      | (with_reducible exact LeO.refl _)
      | (with_reducible exact LeO.none _)
      | (with_reducible refine LeO.ite ?_ ?_)
      | (with_reducible refine LeO.bind ?_ (fun _ => ?_))
      | exact ih0 _ _ _ _
      | exact reelkeeperlaw03_awake.mono _
      | exact LeO.none _
      | refine LeO.ite ?_ ?_
      | refine LeO.bind ?_ (fun _ => ?_)
theorem reelkeeperlaw03_BlockJoin.mono : ∀ a0 a1 k, LeO (reelkeeperlaw03_BlockJoin.f k a0 a1) (reelkeeperlaw03_BlockJoin.f (k + 1) a0 a1) := by
  intro a0 a1 k
  have ih0 := reelkeeperlaw03_BlockJoin.mono_l k
  unfold reelkeeperlaw03_BlockJoin.f
  repeat' first
      | (with_reducible exact ih0 _ _ _ _)
      | (with_reducible exact reelkeeperlaw03_awake.mono _)
      | (with_reducible exact LeO.refl _)
      | (with_reducible exact LeO.none _)
      | (with_reducible refine LeO.ite ?_ ?_)
      | (with_reducible refine LeO.bind ?_ (fun _ => ?_))
      | exact ih0 _ _ _ _
      | exact reelkeeperlaw03_awake.mono _
      | exact LeO.none _
      | refine LeO.ite ?_ ?_
      | refine LeO.bind ?_ (fun _ => ?_)
set_option maxHeartbeats 8000000 in
set_option maxRecDepth 100000 in
theorem reelkeeperlaw03_BlockJoin.calls (k : Nat) (a0 : ByteArray) (a1 : ByteArray) (r : Bool) (w : World) (h : reelkeeperlaw03_BlockJoin.f k a0 a1 = some r) :
    Calls Try.prog 8 #[.string a0, .string a1] w fun e w' => e = .returned (.bool r) ∧ Below w.heap.size w w' := by
  have HB := Aside0.mk (Below.refl w.heap.size w)
  have H : ((reelkeeperlaw03_awake.f k).bind fun t241 => (if t241 = true then (if (a0.size : Int) > 2500 then (reelkeeperlaw03_BlockJoin.j0 k a0 a1 t241 true) else (if (a1.size : Int) > 2500 then (reelkeeperlaw03_BlockJoin.j0 k a0 a1 t241 true) else (reelkeeperlaw03_BlockJoin.j0 k a0 a1 t241 (((a0.size : Int) % 512) != 0)))) else (reelkeeperlaw03_BlockJoin.j0 k a0 a1 t241 true))) = some r := h
  clear h
  replace H := Option.bind_eq_some_iff.mp H
  obtain ⟨t241, A30, H⟩ := H
  replace H : (if t241 = true then (if (a0.size : Int) > 2500 then (reelkeeperlaw03_BlockJoin.j0 k a0 a1 t241 true) else (if (a1.size : Int) > 2500 then (reelkeeperlaw03_BlockJoin.j0 k a0 a1 t241 true) else (reelkeeperlaw03_BlockJoin.j0 k a0 a1 t241 (((a0.size : Int) % 512) != 0)))) else (reelkeeperlaw03_BlockJoin.j0 k a0 a1 t241 true)) = some r := H
  have A3 := Aside0.mk A30
  clear A30
  have HC4 := Aside0.mk H
  clear H
  go_enter Try.func8, Try.ntmps8
  go_upto_region 2 with (first | ((with_reducible refine gate_callee (f := 10) rfl ?_); refine goesL_ (some 9) rfl rfl Try.func10 (by kernel_rfl) rfl #[] rfl (by (try simp only [List.map_toArray, List.map_cons, List.map_nil]); first | done | rfl | (simp only [List.length_drop, List.length_take]; rfl)) ?_; (with_reducible refine (reelkeeperlaw03_awake.calls k  t241 _ A3.out).mono ?_); rintro e w5 ⟨rfl, hb⟩; refine ⟨_, rfl, ?_⟩; have n0_ := Aside0.mk (below_step (by repeat (first | (with_reducible first | exact HB.out | apply below_alloc | apply pw_below_drewN | apply below_drew1) | exact HB.out)) hb); clear HB; have HB := n0_; clear n0_; (try clear hb); (try clear hb2); (try clear hk); (try clear hi)))
  (try simp only [Act.put, List.setIfInBounds_toArray, List.set_cons_zero, List.set_cons_succ])
  go_cut [27] (fun v27 wc => ∃ (kq : Nat) (x27_3 : Bool), v27 = .bool x27_3 ∧ Aside0 (reelkeeperlaw03_BlockJoin.j0 kq a0 a1 t241 x27_3 = some r) ∧ Aside0 (kq ≤ k) ∧ Aside0 (Below w.heap.size w wc))
  case first =>
    have H := HC4.out
    clear HC4
    by_cases c6 : t241 = true
    · subst c6
      have H1 : (if (a0.size : Int) > 2500 then (reelkeeperlaw03_BlockJoin.j0 k a0 a1 true true) else (if (a1.size : Int) > 2500 then (reelkeeperlaw03_BlockJoin.j0 k a0 a1 true true) else (reelkeeperlaw03_BlockJoin.j0 k a0 a1 true (((a0.size : Int) % 512) != 0)))) = some r := by rw [if_pos rfl] at H; exact H
      clear H
      have H := H1
      clear H1
      by_cases c7 : (a0.size : Int) > 2500
      · rw [if_pos c7] at H
        have c7b0 : decide (2500 < (a0.size : Int)) = true := decide_eq_true c7
        have c7b1 : decide (2500 < a0.size) = true := decide_eq_true (by omega)
        clear c7
        (first | rw [c7b0] | (simp only [i64_w, i32_w]; rw [c7b0]) | skip)
        have H' := Aside0.mk H
        clear H
        go_wp2
        go_meet
        case rel => exact ⟨_, (true), (by first | rfl | (simp; done) | (simp [*]; done)), H', ⟨by first | omega | exact Nat.le_refl _⟩, ⟨by repeat (first | (with_reducible first | exact HB.out | apply below_alloc | apply pw_below_drewN | apply below_drew1) | exact HB.out)⟩⟩
      · rw [if_neg c7] at H
        have c7b0 : decide (2500 < (a0.size : Int)) = false := decide_eq_false c7
        have c7b1 : decide (2500 < a0.size) = false := decide_eq_false (by omega)
        clear c7
        (first | rw [c7b0] | (simp only [i64_w, i32_w]; rw [c7b0]) | skip)
        by_cases c8 : (a1.size : Int) > 2500
        · rw [if_pos c8] at H
          have c8b0 : decide (2500 < (a1.size : Int)) = true := decide_eq_true c8
          have c8b1 : decide (2500 < a1.size) = true := decide_eq_true (by omega)
          clear c8
          have H' := Aside0.mk H
          clear H
          go_wp2
          go_meet
          case rel => exact ⟨_, (true), (by first | rfl | (simp; done) | (simp [*]; done)), H', ⟨by first | omega | exact Nat.le_refl _⟩, ⟨by repeat (first | (with_reducible first | exact HB.out | apply below_alloc | apply pw_below_drewN | apply below_drew1) | exact HB.out)⟩⟩
        · rw [if_neg c8] at H
          have c8b0 : decide (2500 < (a1.size : Int)) = false := decide_eq_false c8
          have c8b1 : decide (2500 < a1.size) = false := decide_eq_false (by omega)
          clear c8
          have H' := Aside0.mk H
          clear H
          go_wp2
          go_meet
          case rel => exact ⟨_, ((((a0.size : Int) % 512) != 0)), (by first | rfl | (simp; done) | (simp [*]; done)), H', ⟨by first | omega | exact Nat.le_refl _⟩, ⟨by repeat (first | (with_reducible first | exact HB.out | apply below_alloc | apply pw_below_drewN | apply below_drew1) | exact HB.out)⟩⟩
    · replace c6 := Bool.eq_false_iff.mpr c6
      subst c6
      have H1 : (reelkeeperlaw03_BlockJoin.j0 k a0 a1 false true) = some r := by rw [if_neg (show ¬ (false = true) by decide)] at H; exact H
      clear H
      have H := H1
      clear H1
      have H' := Aside0.mk H
      clear H
      go_wp2
      go_meet
      case rel => exact ⟨_, (true), (by first | rfl | (simp; done) | (simp [*]; done)), H', ⟨by first | omega | exact Nat.le_refl _⟩, ⟨by repeat (first | (with_reducible first | exact HB.out | apply below_alloc | apply pw_below_drewN | apply below_drew1) | exact HB.out)⟩⟩
  case rest =>
    clear HC4
    try clear c1
    try clear p2
    try clear c6
    try clear c7
    try clear c7b0
    try clear c7b1
    try clear c8
    try clear c8b0
    try clear c8b1
    obtain ⟨kq, x27_3, rfl, HA, HJ3, HB⟩ := hcut
    cases kq with
    | zero => exact absurd HA.out (by simp [reelkeeperlaw03_BlockJoin.j0])
    | succ kj3 =>
      have H := HA.out
      clear HA
      simp only [reelkeeperlaw03_BlockJoin.j0] at H
      by_cases c9 : x27_3 = true
      · subst c9
        have H1 : (some t241) = some r := by rw [if_pos rfl] at H; exact H
        clear H
        have H := H1
        clear H1
        obtain rfl := Option.some.inj H
        go_wp2
        go_ret
        exact ⟨by first | rfl | (simp [errW_none, errW_some] <;> rfl) | (simp [*, errW_none, errW_some] <;> rfl), by repeat (first | (with_reducible first | exact HB.out | apply below_alloc | apply pw_below_drewN | apply below_drew1) | exact HB.out)⟩
      · replace c9 := Bool.eq_false_iff.mpr c9
        subst c9
        have H1 : (if a0.size + a1.size ≤ 9223372036854775807 then ((block_Cut.f (a0 ++ a1)).bind fun t242 => ((block_Cut.f a0).bind fun t245 => (if ([] : List (List Int)).length + t245.length < 5864062014805 then ((some (([] : List (List Int)) ++ t245 : List (List Int))).bind fun y248 => ((block_Cut.f a1).bind fun t251 => (if y248.length + t251.length < 5864062014805 then ((reelkeeperref03_Same.f t242 (y248 ++ t251)).bind fun t257 => ((block_Cut.f (a0 ++ a1)).bind fun t258 => ((block_Text.f t258 ((a0.size : Int) + (a1.size : Int))).bind fun bt261 => (if t257 = true then (if bt261.2 = true then (some (bt261.1.toList == (a0 ++ a1).toList)) else (none)) else (none))))) else (none)))) else (none)))) else (none)) = some r := by rw [if_neg (show ¬ (false = true) by decide)] at H; exact H
        clear H
        have H := H1
        clear H1
        by_cases c10 : a0.size + a1.size ≤ 9223372036854775807
        · rw [if_pos c10] at H
          have c10b0 := eq_true c10
          have c10b1 : decide (a0.size + a1.size ≤ 9223372036854775807) = true := decide_eq_true c10
          try have c10b2 : (9223372036854775807 < a0.size + a1.size) = False := eq_false (Nat.not_lt.2 c10)
          replace H := Option.bind_eq_some_iff.mp H
          obtain ⟨t242, A110, H⟩ := H
          replace H : ((block_Cut.f a0).bind fun t245 => (if ([] : List (List Int)).length + t245.length < 5864062014805 then ((some (([] : List (List Int)) ++ t245 : List (List Int))).bind fun y248 => ((block_Cut.f a1).bind fun t251 => (if y248.length + t251.length < 5864062014805 then ((reelkeeperref03_Same.f t242 (y248 ++ t251)).bind fun t257 => ((block_Cut.f (a0 ++ a1)).bind fun t258 => ((block_Text.f t258 ((a0.size : Int) + (a1.size : Int))).bind fun bt261 => (if t257 = true then (if bt261.2 = true then (some (bt261.1.toList == (a0 ++ a1).toList)) else (none)) else (none))))) else (none)))) else (none))) = some r := H
          have A11 := Aside0.mk A110
          clear A110
          replace H := Option.bind_eq_some_iff.mp H
          obtain ⟨t245, A120, H⟩ := H
          replace H : (if ([] : List (List Int)).length + t245.length < 5864062014805 then ((some (([] : List (List Int)) ++ t245 : List (List Int))).bind fun y248 => ((block_Cut.f a1).bind fun t251 => (if y248.length + t251.length < 5864062014805 then ((reelkeeperref03_Same.f t242 (y248 ++ t251)).bind fun t257 => ((block_Cut.f (a0 ++ a1)).bind fun t258 => ((block_Text.f t258 ((a0.size : Int) + (a1.size : Int))).bind fun bt261 => (if t257 = true then (if bt261.2 = true then (some (bt261.1.toList == (a0 ++ a1).toList)) else (none)) else (none))))) else (none)))) else (none)) = some r := H
          have A12 := Aside0.mk A120
          clear A120
          by_cases c13 : ([] : List (List Int)).length + t245.length < 5864062014805
          · rw [if_pos c13] at H
            have LMc13 := Aside0.mk c13
            clear c13
            obtain ⟨y248, hy248⟩ : ∃ y_ : List (List Int), y_ = (([] : List (List Int)) ++ t245) := ⟨_, rfl⟩
            replace H : ((block_Cut.f a1).bind fun t251 => (if y248.length + t251.length < 5864062014805 then ((reelkeeperref03_Same.f t242 (y248 ++ t251)).bind fun t257 => ((block_Cut.f (a0 ++ a1)).bind fun t258 => ((block_Text.f t258 ((a0.size : Int) + (a1.size : Int))).bind fun bt261 => (if t257 = true then (if bt261.2 = true then (some (bt261.1.toList == (a0 ++ a1).toList)) else (none)) else (none))))) else (none))) = some r := by first | (rw [hy248]; with_reducible exact H) | (have H2_ := (Option.bind_some _ _).symm.trans H; rw [hy248]; with_reducible exact H2_) | (have H2_ := (Option.bind_some _ _).symm.trans H; with_reducible exact H2_) | with_reducible exact H | (rw [hy248]; exact H) | exact H
            have Ny248 := Aside0.mk hy248
            clear hy248
            replace H := Option.bind_eq_some_iff.mp H
            obtain ⟨t251, A140, H⟩ := H
            replace H : (if y248.length + t251.length < 5864062014805 then ((reelkeeperref03_Same.f t242 (y248 ++ t251)).bind fun t257 => ((block_Cut.f (a0 ++ a1)).bind fun t258 => ((block_Text.f t258 ((a0.size : Int) + (a1.size : Int))).bind fun bt261 => (if t257 = true then (if bt261.2 = true then (some (bt261.1.toList == (a0 ++ a1).toList)) else (none)) else (none))))) else (none)) = some r := H
            have A14 := Aside0.mk A140
            clear A140
            by_cases c15 : y248.length + t251.length < 5864062014805
            · rw [if_pos c15] at H
              have LMc15 := Aside0.mk c15
              clear c15
              obtain ⟨y254, hy254⟩ : ∃ y_ : List (List Int), y_ = (y248 ++ t251) := ⟨_, rfl⟩
              replace H : ((reelkeeperref03_Same.f t242 y254).bind fun t257 => ((block_Cut.f (a0 ++ a1)).bind fun t258 => ((block_Text.f t258 ((a0.size : Int) + (a1.size : Int))).bind fun bt261 => (if t257 = true then (if bt261.2 = true then (some (bt261.1.toList == (a0 ++ a1).toList)) else (none)) else (none))))) = some r := by first | (rw [hy254]; with_reducible exact H) | (have H2_ := (Option.bind_some _ _).symm.trans H; rw [hy254]; with_reducible exact H2_) | (have H2_ := (Option.bind_some _ _).symm.trans H; with_reducible exact H2_) | with_reducible exact H | (rw [hy254]; exact H) | exact H
              have Ny254 := Aside0.mk hy254
              clear hy254
              replace H := Option.bind_eq_some_iff.mp H
              obtain ⟨t257, A160, H⟩ := H
              replace H : ((block_Cut.f (a0 ++ a1)).bind fun t258 => ((block_Text.f t258 ((a0.size : Int) + (a1.size : Int))).bind fun bt261 => (if t257 = true then (if bt261.2 = true then (some (bt261.1.toList == (a0 ++ a1).toList)) else (none)) else (none)))) = some r := H
              have A16 := Aside0.mk A160
              clear A160
              replace H := Option.bind_eq_some_iff.mp H
              obtain ⟨t258, A170, H⟩ := H
              replace H : ((block_Text.f t258 ((a0.size : Int) + (a1.size : Int))).bind fun bt261 => (if t257 = true then (if bt261.2 = true then (some (bt261.1.toList == (a0 ++ a1).toList)) else (none)) else (none))) = some r := H
              have A17 := Aside0.mk A170
              clear A170
              replace H := Option.bind_eq_some_iff.mp H
              obtain ⟨⟨t261, t262⟩, A180, H⟩ := H
              replace H : (if t257 = true then (if t262 = true then (some (t261.toList == (a0 ++ a1).toList)) else (none)) else (none)) = some r := H
              have A18 := Aside0.mk A180
              clear A180
              by_cases c19 : t257 = true
              · subst c19
                have H1 : (if t262 = true then (some (t261.toList == (a0 ++ a1).toList)) else (none)) = some r := by rw [if_pos rfl] at H; exact H
                clear H
                have H := H1
                clear H1
                by_cases c20 : t262 = true
                · subst c20
                  have H1 : (some (t261.toList == (a0 ++ a1).toList)) = some r := by rw [if_pos rfl] at H; exact H
                  clear H
                  have H := H1
                  clear H1
                  obtain rfl := Option.some.inj H
                  go_wp2_with (first | ((with_reducible refine gate_callee (f := 15) rfl ?_); refine goesL_ (some 32) rfl rfl Try.func15 (by kernel_rfl) rfl #[.string (a0 ++ a1)] rfl (by (try simp only [List.map_toArray, List.map_cons, List.map_nil]); first | done | rfl | (simp only [List.length_drop, List.length_take]; rfl)) ?_; (with_reducible refine (block_Cut.calls (a0 ++ a1) t242 _ A11.out).mono ?_); rintro e w21 ⟨v243, rfl, ho0, hb⟩; refine ⟨_, rfl, ?_⟩; have n0_ := Aside0.mk (Kd.N_lower (Kd.N_mono (ok' := fun k_ => True) (Kd.S_N (Kd.S_bound ho0)) (fun k_ hk_ => trivial)) (below_size (by repeat (first | (with_reducible first | exact HB.out | apply below_alloc | apply pw_below_drewN | apply below_drew1) | exact HB.out)))); have n1_ := Aside0.mk (below_step (by repeat (first | (with_reducible first | exact HB.out | apply below_alloc | apply pw_below_drewN | apply below_drew1) | exact HB.out)) hb); clear HB; have HO244 := n0_; have HB := n1_; clear n0_ n1_; (try clear hb); (try clear hb2); (try clear hk); (try clear hi); (try clear ho0)) | ((with_reducible refine gate_callee (f := 15) rfl ?_); refine goesL_ (some 34) rfl rfl Try.func15 (by kernel_rfl) rfl #[.string a0] rfl (by (try simp only [List.map_toArray, List.map_cons, List.map_nil]); first | done | rfl | (simp only [List.length_drop, List.length_take]; rfl)) ?_; (with_reducible refine (block_Cut.calls a0 t245 _ A12.out).mono ?_); rintro e w22 ⟨v246, rfl, ho0, hb⟩; refine ⟨_, rfl, ?_⟩; have n0_ := Aside0.mk (Kd.N_elder' (by (with_reducible repeat (first | apply Kd.N_alloc | apply Kd.N_drewN | apply Kd.N_drew)); exact HO244.out) (by first | exact Kd.N_base ho0 | exact Kd.S_base ho0 | exact Kd.R_base ho0) hb); have n1_ := Aside0.mk (Kd.N_lower (Kd.N_mono (ok' := fun k_ => some k_ ≠ (v243 : Value).ownBlock) (Kd.S_N (Kd.S_bound ho0)) (fun k_ hk_ => (Kd.fresh' (Kd.N_lt (by (with_reducible repeat (first | apply Kd.N_alloc | apply Kd.N_drewN | apply Kd.N_drew)); exact HO244.out)) k_ hk_.2.1))) (below_size (by repeat (first | (with_reducible first | exact HB.out | apply below_alloc | apply pw_below_drewN | apply below_drew1) | exact HB.out)))); have n2_ := Aside0.mk (below_step (by repeat (first | (with_reducible first | exact HB.out | apply below_alloc | apply pw_below_drewN | apply below_drew1) | exact HB.out)) hb); clear HO244; clear HB; have HO244 := n0_; have HO247 := n1_; have HB := n2_; clear n0_ n1_ n2_; (try clear hb); (try clear hb2); (try clear hk); (try clear hi); (try clear ho0); obtain ⟨Ao24, co24, eo24⟩ := Kd.N_slice HO247.out; subst eo24) | ((with_reducible refine gate_builtin (b := .append) (xs := #[.const (.slice none 0 0), .tmp 34]) rfl ?_); (try (refine gate_guard (by rfl) ?_; dsimp only)); at_builtin; refine Kd.N_append_rows (Kd.slice 5 (Kd.int .u8)) (w0 := w) w.heap.size rfl (.const (.slice none 0 0)) (.tmp 34) 22 31 (.slice none 0 0) 24 rfl Try.underlying22 info31 rfl (by decide) (by omega) (.slice none 0 0) ([] : List (List Int)) t245 _ _ _ (fun k_ => some k_ ≠ (v243 : Value).ownBlock) (fun k_ => ((fun k_ => some k_ ≠ (v243 : Value).ownBlock)) k_ ∧ some k_ ≠ (.slice none 0 0 : Value).ownBlock) rfl rfl ?aO ?aR (fun _ hk => hk) ?aF ?aB ?aS ?aL ?_; (case aR => exact (by skip; exact Kd.N_F (Kd.N_mono (ok' := (fun k_ => ((fun k_ => some k_ ≠ (v243 : Value).ownBlock)) k_ ∧ some k_ ≠ (.slice none 0 0 : Value).ownBlock)) (HO247.out) (fun k_ hk => ⟨hk, (by simp [Value.ownBlock])⟩)))); (case aB => exact (by repeat (first | (with_reducible first | exact HB.out | apply below_alloc | apply pw_below_drewN | apply below_drew1) | exact HB.out))); (case aF => exact (fun k_ hk => Kd.fresh' (Kd.N_lt (by (with_reducible repeat (first | apply Kd.N_alloc | apply Kd.N_drewN | apply Kd.N_drew)); exact HO244.out)) k_ hk)); (case aO => exact ((Kd.N_nil _ _ _ _ (fun k_ => some k_ ≠ (v243 : Value).ownBlock)))); (case aS => exact (below_size (by repeat (first | (with_reducible first | exact HB.out | apply below_alloc | apply pw_below_drewN | apply below_drew1) | exact HB.out)))); (case aL => have := LMc13.out; omega); intro v249 w23 ho hb hg hat; rw [← Ny248.out] at ho; have n0_ := Aside0.mk (Kd.N_afterv (Kd.N_apart_nil (by (with_reducible repeat (first | apply Kd.N_alloc | apply Kd.N_drewN | apply Kd.N_drew)); exact HO244.out)) hg hat); have n1_ := Aside0.mk (Kd.N_afterv (Kd.N_apart_nil (by (with_reducible repeat (first | apply Kd.N_alloc | apply Kd.N_drewN | apply Kd.N_drew)); exact HO247.out)) hg hat); have n2_ := Aside0.mk (hb); have n3_ := Aside0.mk (ho); clear HO244; clear HO247; clear HB; have HO244 := n0_; have HO247 := n1_; have HB := n2_; have HO250 := n3_; clear n0_ n1_ n2_ n3_; clear ho hb hg hat) | ((with_reducible refine gate_callee (f := 15) rfl ?_); refine goesL_ (some 37) rfl rfl Try.func15 (by kernel_rfl) rfl #[.string a1] rfl (by (try simp only [List.map_toArray, List.map_cons, List.map_nil]); first | done | rfl | (simp only [List.length_drop, List.length_take]; rfl)) ?_; (with_reducible refine (block_Cut.calls a1 t251 _ A14.out).mono ?_); rintro e w25 ⟨v252, rfl, ho0, hb⟩; refine ⟨_, rfl, ?_⟩; have n0_ := Aside0.mk (Kd.N_elder' (by (with_reducible repeat (first | apply Kd.N_alloc | apply Kd.N_drewN | apply Kd.N_drew)); exact HO244.out) (by first | exact Kd.N_base ho0 | exact Kd.S_base ho0 | exact Kd.R_base ho0) hb); have n1_ := Aside0.mk (Kd.N_elder' (by (with_reducible repeat (first | apply Kd.N_alloc | apply Kd.N_drewN | apply Kd.N_drew)); exact HO247.out) (by first | exact Kd.N_base ho0 | exact Kd.S_base ho0 | exact Kd.R_base ho0) hb); have n2_ := Aside0.mk (Kd.N_elder' (by (with_reducible repeat (first | apply Kd.N_alloc | apply Kd.N_drewN | apply Kd.N_drew)); exact HO250.out) (by first | exact Kd.N_base ho0 | exact Kd.S_base ho0 | exact Kd.R_base ho0) hb); have n3_ := Aside0.mk (Kd.N_lower (Kd.N_mono (ok' := fun k_ => some k_ ≠ (v243 : Value).ownBlock ∧ some k_ ≠ (.slice Ao24 t245.length co24 : Value).ownBlock ∧ some k_ ≠ (v249 : Value).ownBlock) (Kd.S_N (Kd.S_bound ho0)) (fun k_ hk_ => ⟨(Kd.fresh' (Kd.N_lt (by (with_reducible repeat (first | apply Kd.N_alloc | apply Kd.N_drewN | apply Kd.N_drew)); exact HO244.out)) k_ hk_.2.1), (Kd.fresh' (Kd.N_lt (by (with_reducible repeat (first | apply Kd.N_alloc | apply Kd.N_drewN | apply Kd.N_drew)); exact HO247.out)) k_ hk_.2.1), (Kd.fresh' (Kd.N_lt (by (with_reducible repeat (first | apply Kd.N_alloc | apply Kd.N_drewN | apply Kd.N_drew)); exact HO250.out)) k_ hk_.2.1)⟩)) (below_size (by repeat (first | (with_reducible first | exact HB.out | apply below_alloc | apply pw_below_drewN | apply below_drew1) | exact HB.out)))); have n4_ := Aside0.mk (below_step (by repeat (first | (with_reducible first | exact HB.out | apply below_alloc | apply pw_below_drewN | apply below_drew1) | exact HB.out)) hb); clear HO244; clear HO247; clear HO250; clear HB; have HO244 := n0_; have HO247 := n1_; have HO250 := n2_; have HO253 := n3_; have HB := n4_; clear n0_ n1_ n2_ n3_ n4_; (try clear hb); (try clear hb2); (try clear hk); (try clear hi); (try clear ho0); obtain ⟨Ao27, co27, eo27⟩ := Kd.N_slice HO253.out; subst eo27) | ((with_reducible refine gate_builtin (b := .append) (xs := #[.tmp 35, .tmp 37]) rfl ?_); (try (refine gate_guard (by rfl) ?_; dsimp only)); at_builtin; refine Kd.N_append_rows (Kd.slice 5 (Kd.int .u8)) (w0 := w) w.heap.size rfl (.tmp 35) (.tmp 37) 22 31 (.slice none 0 0) 24 rfl Try.underlying22 info31 rfl (by decide) (by omega) v249 y248 t251 _ _ _ (fun k_ => some k_ ≠ (v243 : Value).ownBlock) (fun k_ => ((fun k_ => some k_ ≠ (v243 : Value).ownBlock)) k_ ∧ some k_ ≠ (v249 : Value).ownBlock) rfl rfl ?aO ?aR (fun _ hk => hk) ?aF ?aB ?aS ?aL ?_; (case aR => exact (by skip; exact Kd.N_F (Kd.N_mono (ok' := (fun k_ => ((fun k_ => some k_ ≠ (v243 : Value).ownBlock)) k_ ∧ some k_ ≠ (v249 : Value).ownBlock)) (HO253.out) (fun k_ hk => ⟨hk.1, hk.2.2⟩)))); (case aB => exact (by repeat (first | (with_reducible first | exact HB.out | apply below_alloc | apply pw_below_drewN | apply below_drew1) | exact HB.out))); (case aF => exact (fun k_ hk => Kd.fresh' (Kd.N_lt (by (with_reducible repeat (first | apply Kd.N_alloc | apply Kd.N_drewN | apply Kd.N_drew)); exact HO244.out)) k_ hk)); (case aO => exact (by (with_reducible repeat (first | apply Kd.N_alloc | apply Kd.N_drewN | apply Kd.N_drew)); exact Kd.N_mono HO250.out (fun _ hk => hk.1))); (case aS => exact (below_size (by repeat (first | (with_reducible first | exact HB.out | apply below_alloc | apply pw_below_drewN | apply below_drew1) | exact HB.out)))); (case aL => have := LMc15.out; omega); intro v255 w26 ho hb hg hat; rw [← Ny254.out] at ho; have n0_ := Aside0.mk (Kd.N_afterv (ok := (fun k_ => some k_ ≠ (.slice Ao24 t245.length co24 : Value).ownBlock ∧ some k_ ≠ (.slice Ao27 t251.length co27 : Value).ownBlock)) (by (with_reducible repeat (first | apply Kd.N_alloc | apply Kd.N_drewN | apply Kd.N_drew)); exact Kd.N_mono HO244.out (fun _ hk => ⟨⟨hk.1.1.2, hk.2⟩, hk.1.2⟩)) hg hat); have n1_ := Aside0.mk (Kd.N_afterv (ok := (fun k_ => some k_ ≠ (v243 : Value).ownBlock ∧ some k_ ≠ (.slice Ao27 t251.length co27 : Value).ownBlock)) (by (with_reducible repeat (first | apply Kd.N_alloc | apply Kd.N_drewN | apply Kd.N_drew)); exact Kd.N_mono HO247.out (fun _ hk => ⟨⟨hk.1.1, hk.2⟩, hk.1.2⟩)) hg hat); have n2_ := Aside0.mk (Kd.N_afterv (ok := (fun k_ => some k_ ≠ (v243 : Value).ownBlock ∧ some k_ ≠ (.slice Ao24 t245.length co24 : Value).ownBlock)) (by (with_reducible repeat (first | apply Kd.N_alloc | apply Kd.N_drewN | apply Kd.N_drew)); exact Kd.N_mono HO253.out (fun _ hk => ⟨⟨hk.1, hk.2.1⟩, hk.2.2⟩)) hg hat); have n3_ := Aside0.mk (hb); have n4_ := Aside0.mk (ho); clear HO244; clear HO247; clear HO253; clear HB; clear HO250; have HO244 := n0_; have HO247 := n1_; have HO253 := n2_; have HB := n3_; have HO256 := n4_; clear n0_ n1_ n2_ n3_ n4_; clear ho hb hg hat; obtain ⟨Ao28, co28, eo28⟩ := Kd.N_slice HO244.out; subst eo28; obtain ⟨Ao29, co29, eo29⟩ := Kd.N_slice HO256.out; subst eo29) | ((with_reducible refine gate_callee (f := 14) rfl ?_); refine goesL_ (some 39) rfl rfl Try.func14 (by kernel_rfl) rfl #[.slice Ao28 t242.length co28, .slice Ao29 y254.length co29] rfl (by (try simp only [List.map_toArray, List.map_cons, List.map_nil]); first | done | rfl | (simp only [List.length_drop, List.length_take]; rfl)) ?_; (with_reducible refine (reelkeeperref03_Same.calls _ _ t242 _ _ y254 true _ ?side1 ?side2 ?side3 ?side4 A16.out).mono ?_); (case side1 => repeat (first | exact (Kd.N_reads' HO244.out).2.2 | (with_reducible refine Kd.C_alloc ?_ _) | (with_reducible refine Kd.C_drewN ?_ _) | (with_reducible refine Kd.C_drew ?_))); (case side2 => exact (Kd.N_reads' HO244.out).2.1); (case side3 => repeat (first | exact (Kd.N_reads' HO256.out).2.2 | (with_reducible refine Kd.C_alloc ?_ _) | (with_reducible refine Kd.C_drewN ?_ _) | (with_reducible refine Kd.C_drew ?_))); (case side4 => exact (Kd.N_reads' HO256.out).2.1); rintro e w' ⟨rfl, ⟨nd, rfl⟩⟩; refine ⟨_, rfl, ?_⟩) | ((with_reducible refine gate_callee (f := 15) rfl ?_); refine goesL_ (some 44) rfl rfl Try.func15 (by kernel_rfl) rfl #[.string (a0 ++ a1)] rfl (by (try simp only [List.map_toArray, List.map_cons, List.map_nil]); first | done | rfl | (simp only [List.length_drop, List.length_take]; rfl)) ?_; (with_reducible refine (block_Cut.calls (a0 ++ a1) t258 _ A17.out).mono ?_); rintro e w30 ⟨v259, rfl, ho0, hb⟩; refine ⟨_, rfl, ?_⟩; have n0_ := Aside0.mk (Kd.N_elder' (by (with_reducible repeat (first | apply Kd.N_alloc | apply Kd.N_drewN | apply Kd.N_drew)); exact HO244.out) (by first | exact Kd.N_base ho0 | exact Kd.S_base ho0 | exact Kd.R_base ho0) hb); have n1_ := Aside0.mk (Kd.N_elder' (by (with_reducible repeat (first | apply Kd.N_alloc | apply Kd.N_drewN | apply Kd.N_drew)); exact HO247.out) (by first | exact Kd.N_base ho0 | exact Kd.S_base ho0 | exact Kd.R_base ho0) hb); have n2_ := Aside0.mk (Kd.N_elder' (by (with_reducible repeat (first | apply Kd.N_alloc | apply Kd.N_drewN | apply Kd.N_drew)); exact HO253.out) (by first | exact Kd.N_base ho0 | exact Kd.S_base ho0 | exact Kd.R_base ho0) hb); have n3_ := Aside0.mk (Kd.N_elder' (by (with_reducible repeat (first | apply Kd.N_alloc | apply Kd.N_drewN | apply Kd.N_drew)); exact HO256.out) (by first | exact Kd.N_base ho0 | exact Kd.S_base ho0 | exact Kd.R_base ho0) hb); have n4_ := Aside0.mk (Kd.N_lower (Kd.N_mono (ok' := fun k_ => some k_ ≠ (.slice Ao28 t242.length co28 : Value).ownBlock ∧ some k_ ≠ (.slice Ao24 t245.length co24 : Value).ownBlock ∧ some k_ ≠ (.slice Ao27 t251.length co27 : Value).ownBlock ∧ some k_ ≠ (.slice Ao29 y254.length co29 : Value).ownBlock) (Kd.S_N (Kd.S_bound ho0)) (fun k_ hk_ => ⟨(Kd.fresh' (Kd.N_lt (by (with_reducible repeat (first | apply Kd.N_alloc | apply Kd.N_drewN | apply Kd.N_drew)); exact HO244.out)) k_ hk_.2.1), (Kd.fresh' (Kd.N_lt (by (with_reducible repeat (first | apply Kd.N_alloc | apply Kd.N_drewN | apply Kd.N_drew)); exact HO247.out)) k_ hk_.2.1), (Kd.fresh' (Kd.N_lt (by (with_reducible repeat (first | apply Kd.N_alloc | apply Kd.N_drewN | apply Kd.N_drew)); exact HO253.out)) k_ hk_.2.1), (Kd.fresh' (Kd.N_lt (by (with_reducible repeat (first | apply Kd.N_alloc | apply Kd.N_drewN | apply Kd.N_drew)); exact HO256.out)) k_ hk_.2.1)⟩)) (below_size (by repeat (first | (with_reducible first | exact HB.out | apply below_alloc | apply pw_below_drewN | apply below_drew1) | exact HB.out)))); have n5_ := Aside0.mk (below_step (by repeat (first | (with_reducible first | exact HB.out | apply below_alloc | apply pw_below_drewN | apply below_drew1) | exact HB.out)) hb); clear HO244; clear HO247; clear HO253; clear HO256; clear HB; have HO244 := n0_; have HO247 := n1_; have HO253 := n2_; have HO256 := n3_; have HO260 := n4_; have HB := n5_; clear n0_ n1_ n2_ n3_ n4_ n5_; (try clear hb); (try clear hb2); (try clear hk); (try clear hi); (try clear ho0); obtain ⟨Ao31, co31, eo31⟩ := Kd.N_slice HO260.out; subst eo31) | ((with_reducible refine gate_callee (f := 12) rfl ?_); refine goesL_ (some 50) rfl rfl Try.func12 (by kernel_rfl) rfl #[.slice Ao31 t258.length co31, .int .i64 ((a0.size : Int) + (a1.size : Int))] rfl (by (try simp only [List.map_toArray, List.map_cons, List.map_nil]); first | done | rfl | (simp only [List.length_drop, List.length_take]; rfl)) ?_; (with_reducible refine (block_Text.calls _ _ t258 ((a0.size : Int) + (a1.size : Int)) t261 true _ ?side1 ?side2 A18.out).mono ?_); (case side1 => repeat (first | exact (Kd.N_reads' HO260.out).2.2 | (with_reducible refine Kd.C_alloc ?_ _) | (with_reducible refine Kd.C_drewN ?_ _) | (with_reducible refine Kd.C_drew ?_))); (case side2 => exact (Kd.N_reads' HO260.out).2.1); rintro e w32 ⟨rfl, hb⟩; refine ⟨_, rfl, ?_⟩; have n0_ := Aside0.mk (Kd.N_below (by (with_reducible repeat (first | apply Kd.N_alloc | apply Kd.N_drewN | apply Kd.N_drew)); exact HO244.out) hb); have n1_ := Aside0.mk (Kd.N_below (by (with_reducible repeat (first | apply Kd.N_alloc | apply Kd.N_drewN | apply Kd.N_drew)); exact HO247.out) hb); have n2_ := Aside0.mk (Kd.N_below (by (with_reducible repeat (first | apply Kd.N_alloc | apply Kd.N_drewN | apply Kd.N_drew)); exact HO253.out) hb); have n3_ := Aside0.mk (Kd.N_below (by (with_reducible repeat (first | apply Kd.N_alloc | apply Kd.N_drewN | apply Kd.N_drew)); exact HO256.out) hb); have n4_ := Aside0.mk (Kd.N_below (by (with_reducible repeat (first | apply Kd.N_alloc | apply Kd.N_drewN | apply Kd.N_drew)); exact HO260.out) hb); have n5_ := Aside0.mk (below_step (by repeat (first | (with_reducible first | exact HB.out | apply below_alloc | apply pw_below_drewN | apply below_drew1) | exact HB.out)) hb); clear HO244; clear HO247; clear HO253; clear HO256; clear HO260; clear HB; have HO244 := n0_; have HO247 := n1_; have HO253 := n2_; have HO256 := n3_; have HO260 := n4_; have HB := n5_; clear n0_ n1_ n2_ n3_ n4_ n5_; (try clear hb); (try clear hb2); (try clear hk); (try clear hi)))
                  go_ret
                  exact ⟨by first | rfl | (simp [errW_none, errW_some] <;> rfl) | (simp [*, errW_none, errW_some] <;> rfl), by repeat (first | (with_reducible first | exact HB.out | apply below_alloc | apply pw_below_drewN | apply below_drew1) | exact HB.out)⟩
                · replace c20 := Bool.eq_false_iff.mpr c20
                  subst c20
                  have H1 : (none) = some r := by rw [if_neg (show ¬ (false = true) by decide)] at H; exact H
                  clear H
                  have H := H1
                  clear H1
                  exact absurd H (by simp)
              · replace c19 := Bool.eq_false_iff.mpr c19
                subst c19
                have H1 : (none) = some r := by rw [if_neg (show ¬ (false = true) by decide)] at H; exact H
                clear H
                have H := H1
                clear H1
                exact absurd H (by simp)
            · rw [if_neg c15] at H
              exact absurd H (by simp)
          · rw [if_neg c13] at H
            exact absurd H (by simp)
        · rw [if_neg c10] at H
          exact absurd H (by simp)

/-- THE ONE PURE STATEMENT of reelkeeperlaw03_BlockJoin: yours. -/
def reelkeeperlaw03_BlockJoin.Pure : Prop := ∀ (a0 : ByteArray) (a1 : ByteArray), a0.size ≤ 140737488351232 → a1.size ≤ 140737488351232 → ∃ k, reelkeeperlaw03_BlockJoin.f k a0 a1 = some true
theorem reelkeeperlaw03_BlockJoin.walk (P : reelkeeperlaw03_BlockJoin.Pure) (a0 : ByteArray) (a1 : ByteArray) (w : World) (w0 : a0.size ≤ 140737488351232) (w1 : a1.size ≤ 140737488351232) :
    Calls Try.prog 8 #[.string a0, .string a1] w fun e w' => e = .returned (.bool true) ∧ Below w.heap.size w w' := by
  obtain ⟨k, h⟩ := P a0 a1 w0 w1
  refine (reelkeeperlaw03_BlockJoin.calls k a0 a1 true w h).mono ?_
  rintro e w' ⟨rfl, hd⟩
  exact ⟨rfl, hd⟩

end Go.Proofs.Ytdbnglmcimckmaa.M
