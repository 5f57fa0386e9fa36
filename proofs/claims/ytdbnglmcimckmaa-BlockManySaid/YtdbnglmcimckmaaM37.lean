/- Part of a claim: what some functions of the program compute, each with its contract; no condition of its own. Written by a program of this workplace (gen.py, over the print of the kit) and by hand. -/
import Derived.Test.YtdbnglmcimckmaaM0
import Derived.Test.YtdbnglmcimckmaaM4
import Derived.Test.YtdbnglmcimckmaaM23
namespace Go.Proofs.Ytdbnglmcimckmaa.M
open Go.RowKit Go.Proofs.YtdbnglmcimckmaaW.PrintWords Go.Proofs.YtdbnglmcimckmaaW.PrintLast Go.Proofs.YtdbnglmcimckmaaW.PrintMore
attribute [local go_sem] max2_int min2_int max_two min_two max_three min_three max_four min_four   -- for this text's walks alone
set_option linter.unusedVariables false
set_option linter.unusedSimpArgs false

/-! ### reelkeeperlaw03_BlockMany: function 5 -/
def reelkeeperlaw03_BlockMany.f (k : Nat) (a0 : Int) : Option (Bool) := (reelkeeperlaw03_awake.f k).bind fun t198 => ((block_Many.f a0).bind fun t199 => (if t198 = true then (if a0 < 1 then (if a0 > 4611686018427387904 then (some true) else (some (t199 == 0))) else (if a0 > 4611686018427387904 then (some true) else ((block_Many.f (wrap64 (a0 + 1))).bind fun t200 => (if (wrap64 (t199 * 512)) ≥ a0 then (if (wrap64 ((wrap64 (t199 - 1)) * 512)) < a0 then (if (Int.tmod a0 512) = 0 then (if t200 = (wrap64 (t199 + 1)) then (some true) else (none)) else (some (t200 == t199))) else (none)) else (none))))) else (none)))
theorem reelkeeperlaw03_BlockMany.mono : ∀ a0 k, LeO (reelkeeperlaw03_BlockMany.f k a0) (reelkeeperlaw03_BlockMany.f (k + 1) a0) := by
  intro a0 k
  unfold reelkeeperlaw03_BlockMany.f
  repeat' first
      | (with_reducible exact reelkeeperlaw03_awake.mono _)
      | (with_reducible exact LeO.refl _)
      | (with_reducible exact LeO.none _)
      | (with_reducible refine LeO.ite ?_ ?_)
      | (with_reducible refine LeO.bind ?_ (fun _ => ?_))
      | exact reelkeeperlaw03_awake.mono _
      | exact LeO.none _
      | refine LeO.ite ?_ ?_
      | refine LeO.bind ?_ (fun _ => ?_)
set_option maxHeartbeats 8000000 in
set_option maxRecDepth 100000 in
theorem reelkeeperlaw03_BlockMany.calls (k : Nat) (a0 : Int) (r : Bool) (w : World) (h : reelkeeperlaw03_BlockMany.f k a0 = some r) :
    Calls Try.prog 5 #[.int .i64 a0] w fun e w' => e = .returned (.bool r) ∧ Below w.heap.size w w' := by
  have HB := Aside0.mk (Below.refl w.heap.size w)
  have H : ((reelkeeperlaw03_awake.f k).bind fun t198 => ((block_Many.f a0).bind fun t199 => (if t198 = true then (if a0 < 1 then (if a0 > 4611686018427387904 then (some true) else (some (t199 == 0))) else (if a0 > 4611686018427387904 then (some true) else ((block_Many.f (wrap64 (a0 + 1))).bind fun t200 => (if (wrap64 (t199 * 512)) ≥ a0 then (if (wrap64 ((wrap64 (t199 - 1)) * 512)) < a0 then (if (Int.tmod a0 512) = 0 then (if t200 = (wrap64 (t199 + 1)) then (some true) else (none)) else (some (t200 == t199))) else (none)) else (none))))) else (none)))) = some r := h
  clear h
  replace H := Option.bind_eq_some_iff.mp H
  obtain ⟨t198, A20, H⟩ := H
  replace H : ((block_Many.f a0).bind fun t199 => (if t198 = true then (if a0 < 1 then (if a0 > 4611686018427387904 then (some true) else (some (t199 == 0))) else (if a0 > 4611686018427387904 then (some true) else ((block_Many.f (wrap64 (a0 + 1))).bind fun t200 => (if (wrap64 (t199 * 512)) ≥ a0 then (if (wrap64 ((wrap64 (t199 - 1)) * 512)) < a0 then (if (Int.tmod a0 512) = 0 then (if t200 = (wrap64 (t199 + 1)) then (some true) else (none)) else (some (t200 == t199))) else (none)) else (none))))) else (none))) = some r := H
  have A2 := Aside0.mk A20
  clear A20
  replace H := Option.bind_eq_some_iff.mp H
  obtain ⟨t199, A30, H⟩ := H
  replace H : (if t198 = true then (if a0 < 1 then (if a0 > 4611686018427387904 then (some true) else (some (t199 == 0))) else (if a0 > 4611686018427387904 then (some true) else ((block_Many.f (wrap64 (a0 + 1))).bind fun t200 => (if (wrap64 (t199 * 512)) ≥ a0 then (if (wrap64 ((wrap64 (t199 - 1)) * 512)) < a0 then (if (Int.tmod a0 512) = 0 then (if t200 = (wrap64 (t199 + 1)) then (some true) else (none)) else (some (t200 == t199))) else (none)) else (none))))) else (none)) = some r := H
  have A3 := Aside0.mk A30
  clear A30
  by_cases c4 : t198 = true
  · subst c4
    have H1 : (if a0 < 1 then (if a0 > 4611686018427387904 then (some true) else (some (t199 == 0))) else (if a0 > 4611686018427387904 then (some true) else ((block_Many.f (wrap64 (a0 + 1))).bind fun t200 => (if (wrap64 (t199 * 512)) ≥ a0 then (if (wrap64 ((wrap64 (t199 - 1)) * 512)) < a0 then (if (Int.tmod a0 512) = 0 then (if t200 = (wrap64 (t199 + 1)) then (some true) else (none)) else (some (t200 == t199))) else (none)) else (none))))) = some r := by rw [if_pos rfl] at H; exact H
    clear H
    have H := H1
    clear H1
    by_cases c5 : a0 < 1
    · rw [if_pos c5] at H
      have c5b0 : decide (a0 < 1) = true := decide_eq_true c5
      clear c5
      by_cases c6 : a0 > 4611686018427387904
      · rw [if_pos c6] at H
        have c6b0 : decide (4611686018427387904 < a0) = true := decide_eq_true c6
        clear c6
        obtain rfl := Option.some.inj H
        go_enter Try.func5, Try.ntmps5
        go_wp2_with (first | ((with_reducible refine gate_callee (f := 10) rfl ?_); refine goesL_ (some 6) rfl rfl Try.func10 (by kernel_rfl) rfl #[] rfl (by (try simp only [List.map_toArray, List.map_cons, List.map_nil]); first | done | rfl | (simp only [List.length_drop, List.length_take]; rfl)) ?_; (with_reducible refine (reelkeeperlaw03_awake.calls k  true _ A2.out).mono ?_); rintro e w7 ⟨rfl, hb⟩; refine ⟨_, rfl, ?_⟩; have n0_ := Aside0.mk (below_step (by repeat (first | (with_reducible first | exact HB.out | apply below_alloc | apply pw_below_drewN | apply below_drew1) | exact HB.out)) hb); clear HB; have HB := n0_; clear n0_; (try clear hb); (try clear hb2); (try clear hk); (try clear hi)) | ((with_reducible refine gate_callee (f := 21) rfl ?_); refine goesL_ (some 8) rfl rfl Try.func21 (by kernel_rfl) rfl #[.int .i64 a0] rfl (by (try simp only [List.map_toArray, List.map_cons, List.map_nil]); first | done | rfl | (simp only [List.length_drop, List.length_take]; rfl)) ?_; (with_reducible refine (block_Many.calls a0 t199 _ A3.out).mono ?_); rintro e w' ⟨rfl, ⟨nd, rfl⟩⟩; refine ⟨_, rfl, ?_⟩))
        go_ret
        exact ⟨by first | rfl | (simp [errW_none, errW_some] <;> rfl) | (simp [*, errW_none, errW_some] <;> rfl), by repeat (first | (with_reducible first | exact HB.out | apply below_alloc | apply pw_below_drewN | apply below_drew1) | exact HB.out)⟩
      · rw [if_neg c6] at H
        have c6b0 : decide (4611686018427387904 < a0) = false := decide_eq_false c6
        clear c6
        obtain rfl := Option.some.inj H
        go_enter Try.func5, Try.ntmps5
        go_wp2_with (first | ((with_reducible refine gate_callee (f := 10) rfl ?_); refine goesL_ (some 6) rfl rfl Try.func10 (by kernel_rfl) rfl #[] rfl (by (try simp only [List.map_toArray, List.map_cons, List.map_nil]); first | done | rfl | (simp only [List.length_drop, List.length_take]; rfl)) ?_; (with_reducible refine (reelkeeperlaw03_awake.calls k  true _ A2.out).mono ?_); rintro e w8 ⟨rfl, hb⟩; refine ⟨_, rfl, ?_⟩; have n0_ := Aside0.mk (below_step (by repeat (first | (with_reducible first | exact HB.out | apply below_alloc | apply pw_below_drewN | apply below_drew1) | exact HB.out)) hb); clear HB; have HB := n0_; clear n0_; (try clear hb); (try clear hb2); (try clear hk); (try clear hi)) | ((with_reducible refine gate_callee (f := 21) rfl ?_); refine goesL_ (some 8) rfl rfl Try.func21 (by kernel_rfl) rfl #[.int .i64 a0] rfl (by (try simp only [List.map_toArray, List.map_cons, List.map_nil]); first | done | rfl | (simp only [List.length_drop, List.length_take]; rfl)) ?_; (with_reducible refine (block_Many.calls a0 t199 _ A3.out).mono ?_); rintro e w' ⟨rfl, ⟨nd, rfl⟩⟩; refine ⟨_, rfl, ?_⟩))
        go_ret
        exact ⟨by first | rfl | (simp [errW_none, errW_some] <;> rfl) | (simp [*, errW_none, errW_some] <;> rfl), by repeat (first | (with_reducible first | exact HB.out | apply below_alloc | apply pw_below_drewN | apply below_drew1) | exact HB.out)⟩
    · rw [if_neg c5] at H
      have c5b0 : decide (a0 < 1) = false := decide_eq_false c5
      clear c5
      by_cases c9 : a0 > 4611686018427387904
      · rw [if_pos c9] at H
        have c9b0 : decide (4611686018427387904 < a0) = true := decide_eq_true c9
        clear c9
        obtain rfl := Option.some.inj H
        go_enter Try.func5, Try.ntmps5
        go_wp2_with (first | ((with_reducible refine gate_callee (f := 10) rfl ?_); refine goesL_ (some 6) rfl rfl Try.func10 (by kernel_rfl) rfl #[] rfl (by (try simp only [List.map_toArray, List.map_cons, List.map_nil]); first | done | rfl | (simp only [List.length_drop, List.length_take]; rfl)) ?_; (with_reducible refine (reelkeeperlaw03_awake.calls k  true _ A2.out).mono ?_); rintro e w10 ⟨rfl, hb⟩; refine ⟨_, rfl, ?_⟩; have n0_ := Aside0.mk (below_step (by repeat (first | (with_reducible first | exact HB.out | apply below_alloc | apply pw_below_drewN | apply below_drew1) | exact HB.out)) hb); clear HB; have HB := n0_; clear n0_; (try clear hb); (try clear hb2); (try clear hk); (try clear hi)) | ((with_reducible refine gate_callee (f := 21) rfl ?_); refine goesL_ (some 8) rfl rfl Try.func21 (by kernel_rfl) rfl #[.int .i64 a0] rfl (by (try simp only [List.map_toArray, List.map_cons, List.map_nil]); first | done | rfl | (simp only [List.length_drop, List.length_take]; rfl)) ?_; (with_reducible refine (block_Many.calls a0 t199 _ A3.out).mono ?_); rintro e w' ⟨rfl, ⟨nd, rfl⟩⟩; refine ⟨_, rfl, ?_⟩))
        go_ret
        exact ⟨by first | rfl | (simp [errW_none, errW_some] <;> rfl) | (simp [*, errW_none, errW_some] <;> rfl), by repeat (first | (with_reducible first | exact HB.out | apply below_alloc | apply pw_below_drewN | apply below_drew1) | exact HB.out)⟩
      · rw [if_neg c9] at H
        have c9b0 : decide (4611686018427387904 < a0) = false := decide_eq_false c9
        clear c9
        replace H := Option.bind_eq_some_iff.mp H
        obtain ⟨t200, A110, H⟩ := H
        replace H : (if (wrap64 (t199 * 512)) ≥ a0 then (if (wrap64 ((wrap64 (t199 - 1)) * 512)) < a0 then (if (Int.tmod a0 512) = 0 then (if t200 = (wrap64 (t199 + 1)) then (some true) else (none)) else (some (t200 == t199))) else (none)) else (none)) = some r := H
        have A11 := Aside0.mk A110
        clear A110
        by_cases c12 : (wrap64 (t199 * 512)) ≥ a0
        · rw [if_pos c12] at H
          have c12b0 : decide (a0 ≤ (wrap64 (t199 * 512))) = true := decide_eq_true c12
          clear c12
          by_cases c13 : (wrap64 ((wrap64 (t199 - 1)) * 512)) < a0
          · rw [if_pos c13] at H
            have c13b0 : decide ((wrap64 ((wrap64 (t199 - 1)) * 512)) < a0) = true := decide_eq_true c13
            clear c13
            by_cases c14 : (Int.tmod a0 512) = 0
            · rw [if_pos c14] at H
              have c14b0 : ((Int.tmod a0 512) == 0) = true := beq_iff_eq.mpr c14
              have c14b1 : ((Int.tmod a0 512) != 0) = false := bne_eq_false_iff_eq.mpr c14
              clear c14
              by_cases c15 : t200 = (wrap64 (t199 + 1))
              · rw [if_pos c15] at H
                have c15b0 : (t200 == (wrap64 (t199 + 1))) = true := beq_iff_eq.mpr c15
                have c15b1 : (t200 != (wrap64 (t199 + 1))) = false := bne_eq_false_iff_eq.mpr c15
                clear c15
                obtain rfl := Option.some.inj H
                go_enter Try.func5, Try.ntmps5
                go_wp2_with (first | ((with_reducible refine gate_callee (f := 10) rfl ?_); refine goesL_ (some 6) rfl rfl Try.func10 (by kernel_rfl) rfl #[] rfl (by (try simp only [List.map_toArray, List.map_cons, List.map_nil]); first | done | rfl | (simp only [List.length_drop, List.length_take]; rfl)) ?_; (with_reducible refine (reelkeeperlaw03_awake.calls k  true _ A2.out).mono ?_); rintro e w16 ⟨rfl, hb⟩; refine ⟨_, rfl, ?_⟩; have n0_ := Aside0.mk (below_step (by repeat (first | (with_reducible first | exact HB.out | apply below_alloc | apply pw_below_drewN | apply below_drew1) | exact HB.out)) hb); clear HB; have HB := n0_; clear n0_; (try clear hb); (try clear hb2); (try clear hk); (try clear hi)) | ((with_reducible refine gate_callee (f := 21) rfl ?_); refine goesL_ (some 8) rfl rfl Try.func21 (by kernel_rfl) rfl #[.int .i64 a0] rfl (by (try simp only [List.map_toArray, List.map_cons, List.map_nil]); first | done | rfl | (simp only [List.length_drop, List.length_take]; rfl)) ?_; (with_reducible refine (block_Many.calls a0 t199 _ A3.out).mono ?_); rintro e w' ⟨rfl, ⟨nd, rfl⟩⟩; refine ⟨_, rfl, ?_⟩) | ((with_reducible refine gate_callee (f := 21) rfl ?_); refine goesL_ (some 30) rfl rfl Try.func21 (by kernel_rfl) rfl #[.int .i64 (wrap64 (a0 + 1))] rfl (by (try simp only [List.map_toArray, List.map_cons, List.map_nil]); first | done | rfl | (simp only [List.length_drop, List.length_take]; rfl)) ?_; (with_reducible refine (block_Many.calls (wrap64 (a0 + 1)) t200 _ A11.out).mono ?_); rintro e w' ⟨rfl, ⟨nd, rfl⟩⟩; refine ⟨_, rfl, ?_⟩))
                go_ret
                exact ⟨by first | rfl | (simp [errW_none, errW_some] <;> rfl) | (simp [*, errW_none, errW_some] <;> rfl), by repeat (first | (with_reducible first | exact HB.out | apply below_alloc | apply pw_below_drewN | apply below_drew1) | exact HB.out)⟩
              · rw [if_neg c15] at H
                exact absurd H (by simp)
            · rw [if_neg c14] at H
              have c14b0 : ((Int.tmod a0 512) == 0) = false := beq_eq_false_iff_ne.mpr c14
              have c14b1 : ((Int.tmod a0 512) != 0) = true := bne_iff_ne.mpr c14
              obtain rfl := Option.some.inj H
              go_enter Try.func5, Try.ntmps5
              go_wp2_with (first | ((with_reducible refine gate_callee (f := 10) rfl ?_); refine goesL_ (some 6) rfl rfl Try.func10 (by kernel_rfl) rfl #[] rfl (by (try simp only [List.map_toArray, List.map_cons, List.map_nil]); first | done | rfl | (simp only [List.length_drop, List.length_take]; rfl)) ?_; (with_reducible refine (reelkeeperlaw03_awake.calls k  true _ A2.out).mono ?_); rintro e w17 ⟨rfl, hb⟩; refine ⟨_, rfl, ?_⟩; have n0_ := Aside0.mk (below_step (by repeat (first | (with_reducible first | exact HB.out | apply below_alloc | apply pw_below_drewN | apply below_drew1) | exact HB.out)) hb); clear HB; have HB := n0_; clear n0_; (try clear hb); (try clear hb2); (try clear hk); (try clear hi)) | ((with_reducible refine gate_callee (f := 21) rfl ?_); refine goesL_ (some 8) rfl rfl Try.func21 (by kernel_rfl) rfl #[.int .i64 a0] rfl (by (try simp only [List.map_toArray, List.map_cons, List.map_nil]); first | done | rfl | (simp only [List.length_drop, List.length_take]; rfl)) ?_; (with_reducible refine (block_Many.calls a0 t199 _ A3.out).mono ?_); rintro e w' ⟨rfl, ⟨nd, rfl⟩⟩; refine ⟨_, rfl, ?_⟩) | ((with_reducible refine gate_callee (f := 21) rfl ?_); refine goesL_ (some 30) rfl rfl Try.func21 (by kernel_rfl) rfl #[.int .i64 (wrap64 (a0 + 1))] rfl (by (try simp only [List.map_toArray, List.map_cons, List.map_nil]); first | done | rfl | (simp only [List.length_drop, List.length_take]; rfl)) ?_; (with_reducible refine (block_Many.calls (wrap64 (a0 + 1)) t200 _ A11.out).mono ?_); rintro e w' ⟨rfl, ⟨nd, rfl⟩⟩; refine ⟨_, rfl, ?_⟩))
              go_ret
              exact ⟨by first | rfl | (simp [errW_none, errW_some] <;> rfl) | (simp [*, errW_none, errW_some] <;> rfl), by repeat (first | (with_reducible first | exact HB.out | apply below_alloc | apply pw_below_drewN | apply below_drew1) | exact HB.out)⟩
          · rw [if_neg c13] at H
            exact absurd H (by simp)
        · rw [if_neg c12] at H
          exact absurd H (by simp)
  · replace c4 := Bool.eq_false_iff.mpr c4
    subst c4
    have H1 : (none) = some r := by rw [if_neg (show ¬ (false = true) by decide)] at H; exact H
    clear H
    have H := H1
    clear H1
    exact absurd H (by simp)

/-- THE ONE PURE STATEMENT of reelkeeperlaw03_BlockMany: yours. -/
def reelkeeperlaw03_BlockMany.Pure : Prop := ∀ (a0 : Int), (Lit.int .i64 a0).wf = true → ∃ k, reelkeeperlaw03_BlockMany.f k a0 = some true
theorem reelkeeperlaw03_BlockMany.walk (P : reelkeeperlaw03_BlockMany.Pure) (a0 : Int) (w : World) (w0 : (Lit.int .i64 a0).wf = true) :
    Calls Try.prog 5 #[.int .i64 a0] w fun e w' => e = .returned (.bool true) ∧ Below w.heap.size w w' := by
  obtain ⟨k, h⟩ := P a0 w0
  refine (reelkeeperlaw03_BlockMany.calls k a0 true w h).mono ?_
  rintro e w' ⟨rfl, hd⟩
  exact ⟨rfl, hd⟩

end Go.Proofs.Ytdbnglmcimckmaa.M
