/- Part of a claim: what some functions of the program compute, each with its contract; no condition of its own. Written by a program of this workplace (gen.py, over the print of the kit) and by hand. -/
import Derived.Test.YtdbnglmcimckmaaM0
import Derived.Test.YtdbnglmcimckmaaM4
import Derived.Test.YtdbnglmcimckmaaM7
import Derived.Test.YtdbnglmcimckmaaM11
import Derived.Test.YtdbnglmcimckmaaM13
import Derived.Test.YtdbnglmcimckmaaM23
namespace Go.Proofs.Ytdbnglmcimckmaa.M
open Go.RowKit Go.Proofs.YtdbnglmcimckmaaW.PrintWords Go.Proofs.YtdbnglmcimckmaaW.PrintLast Go.Proofs.YtdbnglmcimckmaaW.PrintMore
attribute [local go_sem] max2_int min2_int max_two min_two max_three min_three max_four min_four   -- for this text's walks alone
set_option linter.unusedVariables false
set_option linter.unusedSimpArgs false

/-! ### reelkeeperlaw03_BlockBack: function 4 -/
mutual
def reelkeeperlaw03_BlockBack.j0 : Nat → ByteArray → Int → Bool → Bool → Option (Bool)
  | 0, _, _, _, _ => none
  | k + 1, x0, x1, x5, x16 => if x16 = true then (some x5) else ((block_Cut.f x0).bind fun t189 => ((block_Text.f t189 (x0.size : Int)).bind fun bt192 => (if bt192.2 = true then (if bt192.1.toList = x0.toList then ((block_Many.f (x0.size : Int)).bind fun t194 => (if (t189.length : Int) = t194 then ((block_May.f t189).bind fun t195 => (reelkeeperlaw03_BlockBack.j1 k x0 x1 t189 (!t195))) else (reelkeeperlaw03_BlockBack.j1 k x0 x1 t189 true))) else (reelkeeperlaw03_BlockBack.j1 k x0 x1 t189 true)) else (reelkeeperlaw03_BlockBack.j1 k x0 x1 t189 true))))
def reelkeeperlaw03_BlockBack.j1 : Nat → ByteArray → Int → List (List Int) → Bool → Option (Bool)
  | 0, _, _, _, _ => none
  | k + 1, x0, x1, x6, x46 => if x46 = true then (none) else (if x1 < (x0.size : Int) then (some true) else (if x1 ≥ (wrap64 (512 * (x6.length : Int))) then (some true) else (if 0 ≤ (wrap64 (Int.tdiv x1 512)) then (if (wrap64 (Int.tdiv x1 512)) < (x6.length : Int) then (if 0 ≤ (Int.tmod x1 512) then (if (Int.tmod x1 512) < ((rd_L1 x6 (wrap64 (Int.tdiv x1 512))).length : Int) then (some ((rd (rd_L1 x6 (wrap64 (Int.tdiv x1 512))) (Int.tmod x1 512)) == 0)) else (none)) else (none)) else (none)) else (none))))
end
def reelkeeperlaw03_BlockBack.f (k : Nat) (a0 : ByteArray) (a1 : Int) : Option (Bool) := (reelkeeperlaw03_awake.f k).bind fun t188 => (if t188 = true then (reelkeeperlaw03_BlockBack.j0 k a0 a1 t188 (decide ((a0.size : Int) > 5000))) else (reelkeeperlaw03_BlockBack.j0 k a0 a1 t188 true))
theorem reelkeeperlaw03_BlockBack.mono_l : ∀ k, (∀ y0 y1 y2 y3, LeO (reelkeeperlaw03_BlockBack.j0 k y0 y1 y2 y3) (reelkeeperlaw03_BlockBack.j0 (k + 1) y0 y1 y2 y3)) ∧ (∀ y0 y1 y2 y3, LeO (reelkeeperlaw03_BlockBack.j1 k y0 y1 y2 y3) (reelkeeperlaw03_BlockBack.j1 (k + 1) y0 y1 y2 y3))
  | 0 => ⟨fun _ _ _ _ r h => by simp [reelkeeperlaw03_BlockBack.j0] at h, fun _ _ _ _ r h => by simp [reelkeeperlaw03_BlockBack.j1] at h⟩
  | k + 1 => by
    obtain ⟨ih0, ih1⟩ := reelkeeperlaw03_BlockBack.mono_l k
    refine ⟨?_, ?_⟩
    · intro y0 y1 y2 y3
      unfold reelkeeperlaw03_BlockBack.j0
      repeat' first
      | (with_reducible exact ih0 _ _ _ _)
      | (with_reducible exact ih1 _ _ _ _)
      | (with_reducible exact reelkeeperlaw03_awake.mono _)
      | (with_reducible exact LeO.refl _)
      | (with_reducible exact LeO.none _)
      | (with_reducible refine LeO.ite ?_ ?_)
      | (with_reducible refine LeO.bind ?_ (fun _ => ?_))
      | exact ih0 _ _ _ _
      | exact ih1 _ _ _ _
      | exact reelkeeperlaw03_awake.mono _
      | exact LeO.none _
      | refine LeO.ite ?_ ?_
      | refine LeO.bind ?_ (fun _ => ?_)
    · intro y0 y1 y2 y3
      unfold reelkeeperlaw03_BlockBack.j1
      repeat' first
      | (with_reducible exact ih0 _ _ _ _)
      | (with_reducible exact ih1 _ _ _ _)
      | (with_reducible exact reelkeeperlaw03_awake.mono _)
      | (with_reducible exact LeO.refl _)
      | (with_reducible exact LeO.none _)
      | (with_reducible refine LeO.ite ?_ ?_)
      | (with_reducible refine LeO.bind ?_ (fun _ => ?_))
      | exact ih0 _ _ _ _
      | exact ih1 _ _ _ _
      | exact reelkeeperlaw03_awake.mono _
      | exact LeO.none _
      | refine LeO.ite ?_ ?_
      | refine LeO.bind ?_ (fun _ => ?_)
theorem reelkeeperlaw03_BlockBack.mono : ∀ a0 a1 k, LeO (reelkeeperlaw03_BlockBack.f k a0 a1) (reelkeeperlaw03_BlockBack.f (k + 1) a0 a1) := by
  intro a0 a1 k
  obtain ⟨ih0, ih1⟩ := reelkeeperlaw03_BlockBack.mono_l k
  unfold reelkeeperlaw03_BlockBack.f
  repeat' first
      | (with_reducible exact ih0 _ _ _ _)
      | (with_reducible exact ih1 _ _ _ _)
      | (with_reducible exact reelkeeperlaw03_awake.mono _)
      | (with_reducible exact LeO.refl _)
      | (with_reducible exact LeO.none _)
      | (with_reducible refine LeO.ite ?_ ?_)
      | (with_reducible refine LeO.bind ?_ (fun _ => ?_))
      | exact ih0 _ _ _ _
      | exact ih1 _ _ _ _
      | exact reelkeeperlaw03_awake.mono _
      | exact LeO.none _
      | refine LeO.ite ?_ ?_
      | refine LeO.bind ?_ (fun _ => ?_)
set_option maxHeartbeats 8000000 in
set_option maxRecDepth 100000 in
theorem reelkeeperlaw03_BlockBack.calls (k : Nat) (a0 : ByteArray) (a1 : Int) (r : Bool) (w : World) (h : reelkeeperlaw03_BlockBack.f k a0 a1 = some r) :
    Calls Try.prog 4 #[.string a0, .int .i64 a1] w fun e w' => e = .returned (.bool r) ∧ Below w.heap.size w w' := by
  have HB := Aside0.mk (Below.refl w.heap.size w)
  have H : ((reelkeeperlaw03_awake.f k).bind fun t188 => (if t188 = true then (reelkeeperlaw03_BlockBack.j0 k a0 a1 t188 (decide ((a0.size : Int) > 5000))) else (reelkeeperlaw03_BlockBack.j0 k a0 a1 t188 true))) = some r := h
  clear h
  replace H := Option.bind_eq_some_iff.mp H
  obtain ⟨t188, A30, H⟩ := H
  replace H : (if t188 = true then (reelkeeperlaw03_BlockBack.j0 k a0 a1 t188 (decide ((a0.size : Int) > 5000))) else (reelkeeperlaw03_BlockBack.j0 k a0 a1 t188 true)) = some r := H
  have A3 := Aside0.mk A30
  clear A30
  have HC4 := Aside0.mk H
  clear H
  go_enter Try.func4, Try.ntmps4
  go_upto_region 2 with (first | ((with_reducible refine gate_callee (f := 10) rfl ?_); refine goesL_ (some 9) rfl rfl Try.func10 (by kernel_rfl) rfl #[] rfl (by (try simp only [List.map_toArray, List.map_cons, List.map_nil]); first | done | rfl | (simp only [List.length_drop, List.length_take]; rfl)) ?_; (with_reducible refine (reelkeeperlaw03_awake.calls k  t188 _ A3.out).mono ?_); rintro e w5 ⟨rfl, hb⟩; refine ⟨_, rfl, ?_⟩; have n0_ := Aside0.mk (below_step (by repeat (first | (with_reducible first | exact HB.out | apply below_alloc | apply pw_below_drewN | apply below_drew1) | exact HB.out)) hb); clear HB; have HB := n0_; clear n0_; (try clear hb); (try clear hb2); (try clear hk); (try clear hi)))
  (try simp only [Act.put, List.setIfInBounds_toArray, List.set_cons_zero, List.set_cons_succ])
  go_cut [16] (fun v16 wc => ∃ (kq : Nat) (x16_3 : Bool), v16 = .bool x16_3 ∧ Aside0 (reelkeeperlaw03_BlockBack.j0 kq a0 a1 t188 x16_3 = some r) ∧ Aside0 (kq ≤ k) ∧ Aside0 (Below w.heap.size w wc))
  case first =>
    have H := HC4.out
    clear HC4
    by_cases c6 : t188 = true
    · subst c6
      have H1 : (reelkeeperlaw03_BlockBack.j0 k a0 a1 true (decide ((a0.size : Int) > 5000))) = some r := by rw [if_pos rfl] at H; exact H
      clear H
      have H := H1
      clear H1
      have H' := Aside0.mk H
      clear H
      go_wp2
      go_meet
      case rel => exact ⟨_, (decide ((a0.size : Int) > 5000)), (by first | rfl | (simp; done) | (simp [*]; done)), H', ⟨by first | omega | exact Nat.le_refl _⟩, ⟨by repeat (first | (with_reducible first | exact HB.out | apply below_alloc | apply pw_below_drewN | apply below_drew1) | exact HB.out)⟩⟩
    · replace c6 := Bool.eq_false_iff.mpr c6
      subst c6
      have H1 : (reelkeeperlaw03_BlockBack.j0 k a0 a1 false true) = some r := by rw [if_neg (show ¬ (false = true) by decide)] at H; exact H
      clear H
      have H := H1
      clear H1
      have H' := Aside0.mk H
      clear H
      go_wp2
      go_meet
      case rel => exact ⟨_, (true), (by first | rfl | (simp; done) | (simp [*]; done)), H', ⟨by first | omega | exact Nat.le_refl _⟩, ⟨by repeat (first | (with_reducible first | exact HB.out | apply below_alloc | apply pw_below_drewN | apply below_drew1) | exact HB.out)⟩⟩
  case rest =>
    clear HC4
    try clear c1
    try clear p2
    try clear c4
    try clear c6
    obtain ⟨kq, x16_3, rfl, HA, HJ3, HB⟩ := hcut
    cases kq with
    | zero => exact absurd HA.out (by simp [reelkeeperlaw03_BlockBack.j0])
    | succ kj3 =>
      have H := HA.out
      clear HA
      simp only [reelkeeperlaw03_BlockBack.j0] at H
      by_cases c7 : x16_3 = true
      · subst c7
        have H1 : (some t188) = some r := by rw [if_pos rfl] at H; exact H
        clear H
        have H := H1
        clear H1
        obtain rfl := Option.some.inj H
        go_wp2
        go_ret
        exact ⟨by first | rfl | (simp [errW_none, errW_some] <;> rfl) | (simp [*, errW_none, errW_some] <;> rfl), by repeat (first | (with_reducible first | exact HB.out | apply below_alloc | apply pw_below_drewN | apply below_drew1) | exact HB.out)⟩
      · replace c7 := Bool.eq_false_iff.mpr c7
        subst c7
        have H1 : ((block_Cut.f a0).bind fun t189 => ((block_Text.f t189 (a0.size : Int)).bind fun bt192 => (if bt192.2 = true then (if bt192.1.toList = a0.toList then ((block_Many.f (a0.size : Int)).bind fun t194 => (if (t189.length : Int) = t194 then ((block_May.f t189).bind fun t195 => (reelkeeperlaw03_BlockBack.j1 kj3 a0 a1 t189 (!t195))) else (reelkeeperlaw03_BlockBack.j1 kj3 a0 a1 t189 true))) else (reelkeeperlaw03_BlockBack.j1 kj3 a0 a1 t189 true)) else (reelkeeperlaw03_BlockBack.j1 kj3 a0 a1 t189 true)))) = some r := by rw [if_neg (show ¬ (false = true) by decide)] at H; exact H
        clear H
        have H := H1
        clear H1
        replace H := Option.bind_eq_some_iff.mp H
        obtain ⟨t189, A80, H⟩ := H
        replace H : ((block_Text.f t189 (a0.size : Int)).bind fun bt192 => (if bt192.2 = true then (if bt192.1.toList = a0.toList then ((block_Many.f (a0.size : Int)).bind fun t194 => (if (t189.length : Int) = t194 then ((block_May.f t189).bind fun t195 => (reelkeeperlaw03_BlockBack.j1 kj3 a0 a1 t189 (!t195))) else (reelkeeperlaw03_BlockBack.j1 kj3 a0 a1 t189 true))) else (reelkeeperlaw03_BlockBack.j1 kj3 a0 a1 t189 true)) else (reelkeeperlaw03_BlockBack.j1 kj3 a0 a1 t189 true))) = some r := H
        have A8 := Aside0.mk A80
        clear A80
        replace H := Option.bind_eq_some_iff.mp H
        obtain ⟨⟨t192, t193⟩, A90, H⟩ := H
        replace H : (if t193 = true then (if t192.toList = a0.toList then ((block_Many.f (a0.size : Int)).bind fun t194 => (if (t189.length : Int) = t194 then ((block_May.f t189).bind fun t195 => (reelkeeperlaw03_BlockBack.j1 kj3 a0 a1 t189 (!t195))) else (reelkeeperlaw03_BlockBack.j1 kj3 a0 a1 t189 true))) else (reelkeeperlaw03_BlockBack.j1 kj3 a0 a1 t189 true)) else (reelkeeperlaw03_BlockBack.j1 kj3 a0 a1 t189 true)) = some r := H
        have A9 := Aside0.mk A90
        clear A90
        have HC10 := Aside0.mk H
        clear H
        go_upto_region 6 with (first | ((with_reducible refine gate_callee (f := 15) rfl ?_); refine goesL_ (some 19) rfl rfl Try.func15 (by kernel_rfl) rfl #[.string a0] rfl (by (try simp only [List.map_toArray, List.map_cons, List.map_nil]); first | done | rfl | (simp only [List.length_drop, List.length_take]; rfl)) ?_; (with_reducible refine (block_Cut.calls a0 t189 _ A8.out).mono ?_); rintro e w11 ⟨v190, rfl, ho0, hb⟩; refine ⟨_, rfl, ?_⟩; have n0_ := Aside0.mk (Kd.S_lower ho0 (below_size (by repeat (first | (with_reducible first | exact HB.out | apply below_alloc | apply pw_below_drewN | apply below_drew1) | exact HB.out)))); have n1_ := Aside0.mk (below_step (by repeat (first | (with_reducible first | exact HB.out | apply below_alloc | apply pw_below_drewN | apply below_drew1) | exact HB.out)) hb); clear HB; have HO191 := n0_; have HB := n1_; clear n0_ n1_; (try clear hb); (try clear hb2); (try clear hk); (try clear hi); (try clear ho0); obtain ⟨Ao12, co12, eo12⟩ := Kd.S_slice HO191.out; subst eo12) | ((with_reducible refine gate_callee (f := 12) rfl ?_); refine goesL_ (some 24) rfl rfl Try.func12 (by kernel_rfl) rfl #[.slice Ao12 t189.length co12, .int .i64 (a0.size : Int)] rfl (by (try simp only [List.map_toArray, List.map_cons, List.map_nil]); first | done | rfl | (simp only [List.length_drop, List.length_take]; rfl)) ?_; (with_reducible refine (block_Text.calls _ _ t189 (a0.size : Int) t192 t193 _ ?side1 ?side2 A9.out).mono ?_); (case side1 => repeat (first | exact (Kd.S_reads' HO191.out).2.2 | (with_reducible refine Kd.C_alloc ?_ _) | (with_reducible refine Kd.C_drewN ?_ _) | (with_reducible refine Kd.C_drew ?_))); (case side2 => exact (Kd.S_reads' HO191.out).2.1); rintro e w13 ⟨rfl, hb⟩; refine ⟨_, rfl, ?_⟩; have n0_ := Aside0.mk (Kd.S_below (by (with_reducible repeat (first | apply Kd.S_alloc | apply Kd.S_drewN | apply Kd.S_drew)); exact HO191.out) hb); have n1_ := Aside0.mk (below_step (by repeat (first | (with_reducible first | exact HB.out | apply below_alloc | apply pw_below_drewN | apply below_drew1) | exact HB.out)) hb); clear HO191; clear HB; have HO191 := n0_; have HB := n1_; clear n0_ n1_; (try clear hb); (try clear hb2); (try clear hk); (try clear hi)))
        (try simp only [Act.put, List.setIfInBounds_toArray, List.set_cons_zero, List.set_cons_succ])
        go_cut [46] (fun v46 wc => ∃ (kq : Nat) (x46_9 : Bool), v46 = .bool x46_9 ∧ Aside0 (reelkeeperlaw03_BlockBack.j1 kq a0 a1 t189 x46_9 = some r) ∧ Aside0 (kq ≤ kj3) ∧ Aside0 (Kd.S (Kd.slice 5 (Kd.int .u8)) 31 wc w.heap.size (fun _ => True) (.slice Ao12 t189.length co12) t189) ∧ Aside0 (Below w.heap.size w wc))
        case first =>
          have H := HC10.out
          clear HC10
          by_cases c14 : t193 = true
          · subst c14
            have H1 : (if t192.toList = a0.toList then ((block_Many.f (a0.size : Int)).bind fun t194 => (if (t189.length : Int) = t194 then ((block_May.f t189).bind fun t195 => (reelkeeperlaw03_BlockBack.j1 kj3 a0 a1 t189 (!t195))) else (reelkeeperlaw03_BlockBack.j1 kj3 a0 a1 t189 true))) else (reelkeeperlaw03_BlockBack.j1 kj3 a0 a1 t189 true)) = some r := by rw [if_pos rfl] at H; exact H
            clear H
            have H := H1
            clear H1
            by_cases c15 : t192.toList = a0.toList
            · rw [if_pos c15] at H
              have c15b0 : (t192.toList == a0.toList) = true := beq_iff_eq.mpr c15
              have c15b1 : (t192.toList != a0.toList) = false := bne_eq_false_iff_eq.mpr c15
              clear c15
              (first | rw [c15b0] | (simp only [i64_w, i32_w]; rw [c15b0]) | skip)
              replace H := Option.bind_eq_some_iff.mp H
              obtain ⟨t194, A160, H⟩ := H
              replace H : (if (t189.length : Int) = t194 then ((block_May.f t189).bind fun t195 => (reelkeeperlaw03_BlockBack.j1 kj3 a0 a1 t189 (!t195))) else (reelkeeperlaw03_BlockBack.j1 kj3 a0 a1 t189 true)) = some r := H
              have A16 := Aside0.mk A160
              clear A160
              by_cases c17 : (t189.length : Int) = t194
              · rw [if_pos c17] at H
                have c17b0 : ((t189.length : Int) == t194) = true := beq_iff_eq.mpr c17
                have c17b1 : ((t189.length : Int) != t194) = false := bne_eq_false_iff_eq.mpr c17
                clear c17
                replace H := Option.bind_eq_some_iff.mp H
                obtain ⟨t195, A180, H⟩ := H
                replace H : (reelkeeperlaw03_BlockBack.j1 kj3 a0 a1 t189 (!t195)) = some r := H
                have A18 := Aside0.mk A180
                clear A180
                have H' := Aside0.mk H
                clear H
                go_wp2_with (first | (go_at_call 21; (with_reducible refine (block_Many.calls (a0.size : Int) t194 _ A16.out).mono ?_); rintro e w' ⟨rfl, ⟨nd, rfl⟩⟩) | (go_at_call 23; (with_reducible refine (block_May.calls _ _ t189 t195 _ ?side1 ?side2 A18.out).mono ?_); (case side1 => repeat (first | exact (Kd.S_reads' HO191.out).2.2 | (with_reducible refine Kd.C_alloc ?_ _) | (with_reducible refine Kd.C_drewN ?_ _) | (with_reducible refine Kd.C_drew ?_))); (case side2 => exact (Kd.S_reads' HO191.out).2.1); rintro e w' ⟨rfl, ⟨nd, rfl⟩⟩))
                go_meet
                case rel => exact ⟨_, (!t195), (by first | rfl | (simp; done) | (simp [*]; done)), H', ⟨by have := HJ3.out; first | omega | exact Nat.le_refl _⟩, ⟨by (with_reducible repeat (first | apply Kd.S_alloc | apply Kd.S_drewN | apply Kd.S_drew)); exact HO191.out⟩, ⟨by repeat (first | (with_reducible first | exact HB.out | apply below_alloc | apply pw_below_drewN | apply below_drew1) | exact HB.out)⟩⟩
              · rw [if_neg c17] at H
                have c17b0 : ((t189.length : Int) == t194) = false := beq_eq_false_iff_ne.mpr c17
                have c17b1 : ((t189.length : Int) != t194) = true := bne_iff_ne.mpr c17
                have H' := Aside0.mk H
                clear H
                go_wp2_with (first | (go_at_call 21; (with_reducible refine (block_Many.calls (a0.size : Int) t194 _ A16.out).mono ?_); rintro e w' ⟨rfl, ⟨nd, rfl⟩⟩))
                go_meet
                case rel => exact ⟨_, (true), (by first | rfl | (simp; done) | (simp [*]; done)), H', ⟨by have := HJ3.out; first | omega | exact Nat.le_refl _⟩, ⟨by (with_reducible repeat (first | apply Kd.S_alloc | apply Kd.S_drewN | apply Kd.S_drew)); exact HO191.out⟩, ⟨by repeat (first | (with_reducible first | exact HB.out | apply below_alloc | apply pw_below_drewN | apply below_drew1) | exact HB.out)⟩⟩
            · rw [if_neg c15] at H
              have c15b0 : (t192.toList == a0.toList) = false := beq_eq_false_iff_ne.mpr c15
              have c15b1 : (t192.toList != a0.toList) = true := bne_iff_ne.mpr c15
              (first | rw [c15b0] | (simp only [i64_w, i32_w]; rw [c15b0]) | skip)
              have H' := Aside0.mk H
              clear H
              go_wp2
              go_meet
              case rel => exact ⟨_, (true), (by first | rfl | (simp; done) | (simp [*]; done)), H', ⟨by have := HJ3.out; first | omega | exact Nat.le_refl _⟩, ⟨by (with_reducible repeat (first | apply Kd.S_alloc | apply Kd.S_drewN | apply Kd.S_drew)); exact HO191.out⟩, ⟨by repeat (first | (with_reducible first | exact HB.out | apply below_alloc | apply pw_below_drewN | apply below_drew1) | exact HB.out)⟩⟩
          · replace c14 := Bool.eq_false_iff.mpr c14
            subst c14
            have H1 : (reelkeeperlaw03_BlockBack.j1 kj3 a0 a1 t189 true) = some r := by rw [if_neg (show ¬ (false = true) by decide)] at H; exact H
            clear H
            have H := H1
            clear H1
            have H' := Aside0.mk H
            clear H
            go_wp2
            go_meet
            case rel => exact ⟨_, (true), (by first | rfl | (simp; done) | (simp [*]; done)), H', ⟨by have := HJ3.out; first | omega | exact Nat.le_refl _⟩, ⟨by (with_reducible repeat (first | apply Kd.S_alloc | apply Kd.S_drewN | apply Kd.S_drew)); exact HO191.out⟩, ⟨by repeat (first | (with_reducible first | exact HB.out | apply below_alloc | apply pw_below_drewN | apply below_drew1) | exact HB.out)⟩⟩
        case rest =>
          clear HC10
          try clear c1
          try clear p2
          try clear c4
          try clear c6
          try clear c7
          try clear c10
          try clear c12
          try clear c14
          try clear c15
          try clear c15b0
          try clear c15b1
          try clear c17
          try clear c17b0
          try clear c17b1
          try clear p2
          obtain ⟨kq, x46_9, rfl, HA, HJ9, HO_6, HB⟩ := hcut
          cases kq with
          | zero => exact absurd HA.out (by simp [reelkeeperlaw03_BlockBack.j1])
          | succ kj9 =>
            have H := HA.out
            clear HA
            simp only [reelkeeperlaw03_BlockBack.j1] at H
            by_cases c19 : x46_9 = true
            · subst c19
              have H1 : (none) = some r := by rw [if_pos rfl] at H; exact H
              clear H
              have H := H1
              clear H1
              exact absurd H (by simp)
            · replace c19 := Bool.eq_false_iff.mpr c19
              subst c19
              have H1 : (if a1 < (a0.size : Int) then (some true) else (if a1 ≥ (wrap64 (512 * (t189.length : Int))) then (some true) else (if 0 ≤ (wrap64 (Int.tdiv a1 512)) then (if (wrap64 (Int.tdiv a1 512)) < (t189.length : Int) then (if 0 ≤ (Int.tmod a1 512) then (if (Int.tmod a1 512) < ((rd_L1 t189 (wrap64 (Int.tdiv a1 512))).length : Int) then (some ((rd (rd_L1 t189 (wrap64 (Int.tdiv a1 512))) (Int.tmod a1 512)) == 0)) else (none)) else (none)) else (none)) else (none)))) = some r := by rw [if_neg (show ¬ (false = true) by decide)] at H; exact H
              clear H
              have H := H1
              clear H1
              by_cases c20 : a1 < (a0.size : Int)
              · rw [if_pos c20] at H
                have c20b0 : decide (a1 < (a0.size : Int)) = true := decide_eq_true c20
                clear c20
                obtain rfl := Option.some.inj H
                go_wp2
                go_ret
                exact ⟨by first | rfl | (simp [errW_none, errW_some] <;> rfl) | (simp [*, errW_none, errW_some] <;> rfl), by repeat (first | (with_reducible first | exact HB.out | apply below_alloc | apply pw_below_drewN | apply below_drew1) | exact HB.out)⟩
              · rw [if_neg c20] at H
                have c20b0 : decide (a1 < (a0.size : Int)) = false := decide_eq_false c20
                clear c20
                by_cases c21 : a1 ≥ (wrap64 (512 * (t189.length : Int)))
                · rw [if_pos c21] at H
                  have c21b0 : decide ((wrap64 (512 * (t189.length : Int))) ≤ a1) = true := decide_eq_true c21
                  clear c21
                  obtain rfl := Option.some.inj H
                  go_wp2
                  go_ret
                  exact ⟨by first | rfl | (simp [errW_none, errW_some] <;> rfl) | (simp [*, errW_none, errW_some] <;> rfl), by repeat (first | (with_reducible first | exact HB.out | apply below_alloc | apply pw_below_drewN | apply below_drew1) | exact HB.out)⟩
                · rw [if_neg c21] at H
                  have c21b0 : decide ((wrap64 (512 * (t189.length : Int))) ≤ a1) = false := decide_eq_false c21
                  clear c21
                  obtain ⟨ji22, hji22⟩ : ∃ j_ : Int, (wrap64 (Int.tdiv a1 512)) = j_ := ⟨_, rfl⟩
                  replace H : (if 0 ≤ (ji22) then (if (ji22) < (t189.length : Int) then (if 0 ≤ (Int.tmod a1 512) then (if (Int.tmod a1 512) < ((rd_L1 t189 (ji22)).length : Int) then (some ((rd (rd_L1 t189 (ji22)) (Int.tmod a1 512)) == 0)) else (none)) else (none)) else (none)) else (none)) = some r := by first | (rw [hji22] at H; exact H) | (simp only [hji22] at H ⊢; exact H)
                  have hji22w : (IntKind.i64.wrap (Int.tdiv a1 512)) = ji22 := (i64_w _).trans hji22
                  by_cases c23 : 0 ≤ (ji22)
                  · rw [if_pos c23] at H
                    have c23b0 : decide (0 ≤ (ji22)) = true := decide_eq_true c23
                    clear c23
                    by_cases c24 : (ji22) < (t189.length : Int)
                    · rw [if_pos c24] at H
                      have c24b0 : decide ((ji22) < (t189.length : Int)) = true := decide_eq_true c24
                      clear c24
                      obtain ⟨ji25, hji25⟩ : ∃ j_ : Int, (Int.tmod a1 512) = j_ := ⟨_, rfl⟩
                      replace H : (if 0 ≤ (ji25) then (if (ji25) < ((rd_L1 t189 (ji22)).length : Int) then (some ((rd (rd_L1 t189 (ji22)) (ji25)) == 0)) else (none)) else (none)) = some r := by first | (rw [hji25] at H; exact H) | (simp only [hji25] at H ⊢; exact H)
                      by_cases c26 : 0 ≤ (ji25)
                      · rw [if_pos c26] at H
                        have c26b0 : decide (0 ≤ (ji25)) = true := decide_eq_true c26
                        clear c26
                        by_cases c27 : (ji25) < ((rd_L1 t189 (ji22)).length : Int)
                        · rw [if_pos c27] at H
                          have c27b0 : decide ((ji25) < ((rd_L1 t189 (ji22)).length : Int)) = true := decide_eq_true c27
                          clear c27
                          obtain rfl := Option.some.inj H
                          have p196 : 0 ≤ ((ji22) : Int) := of_decide_eq_true (by first | (with_reducible assumption) | assumption)
                          have q196 : (ji22) < (t189.length : Int) := of_decide_eq_true (by first | (with_reducible assumption) | assumption)
                          obtain ⟨ad196, A196_0, c196_0, e196, hx196_0, hl196_0, hi196_0⟩ := at_L1 (Kd.S_reads' HO_6.out).2.2 (ji22) p196 q196
                          cases e196
                          obtain ⟨ce196, hce196, hMe196, hcc196⟩ := Kd.S_get HO_6.out [] (ji22) p196 (by first | exact q196 | exact of_decide_eq_true (by first | (with_reducible assumption) | assumption) | (have e_ := (Kd.S_reads' HO_6.out).1; omega))
                          obtain ⟨ve196_0, rfl, ge196_0⟩ := hMe196
                          have hv196_0 := hcc196 0 _ rfl
                          rw [Nat.add_zero, show ((Kd.slice 5 (Kd.int .u8))).sz = 1 from rfl, Nat.mul_one] at hv196_0
                          replace hv196_0 := Option.some.inj (hv196_0.symm.trans hx196_0)
                          rw [hv196_0] at ge196_0
                          have HL196_0 := Aside0.mk (show Kd.R (Kd.int .u8) 5 _ _ _ _ (rd_L1 t189 (ji22)) from ge196_0)
                          clear hv196_0 ge196_0
                          clear hcc196 hce196
                          have HR196_0 := Aside0.mk hi196_0
                          have HC196_0 := Aside0.mk hl196_0
                          clear hi196_0 hl196_0
                          replace p196 := eq_true p196
                          replace q196 := eq_true q196
                          have p197 : 0 ≤ ((ji25) : Int) := of_decide_eq_true (by first | (with_reducible assumption) | assumption)
                          have q197 : (ji25) < ((rd_L1 t189 (ji22)).length : Int) := of_decide_eq_true (by first | (with_reducible assumption) | assumption)
                          obtain ⟨ad197, e197, hx197_0⟩ := Kd.at_int (by repeat (first | (with_reducible exact HR196_0.out) | (with_reducible refine Kd.C_alloc ?_ _) | (with_reducible refine Kd.C_drewN ?_ _) | (with_reducible refine Kd.C_drew ?_) | exact HR196_0.out)) (ji25) p197 q197
                          cases e197
                          replace p197 := eq_true p197
                          replace q197 := eq_true q197
                          go_wp2
                          go_ret
                          exact ⟨by first | rfl | (simp [errW_none, errW_some] <;> rfl) | (simp only [← hji22, ← hji25]; first | rfl | (simp [errW_none, errW_some] <;> rfl)) | (simp [*, errW_none, errW_some] <;> rfl), by repeat (first | (with_reducible first | exact HB.out | apply below_alloc | apply pw_below_drewN | apply below_drew1) | exact HB.out)⟩
                        · rw [if_neg c27] at H
                          exact absurd H (by simp)
                      · rw [if_neg c26] at H
                        exact absurd H (by simp)
                    · rw [if_neg c24] at H
                      exact absurd H (by simp)
                  · rw [if_neg c23] at H
                    exact absurd H (by simp)

/-- THE ONE PURE STATEMENT of reelkeeperlaw03_BlockBack: yours. -/
def reelkeeperlaw03_BlockBack.Pure : Prop := ∀ (a0 : ByteArray) (a1 : Int), a0.size ≤ 140737488351232 → (Lit.int .i64 a1).wf = true → ∃ k, reelkeeperlaw03_BlockBack.f k a0 a1 = some true
theorem reelkeeperlaw03_BlockBack.walk (P : reelkeeperlaw03_BlockBack.Pure) (a0 : ByteArray) (a1 : Int) (w : World) (w0 : a0.size ≤ 140737488351232) (w1 : (Lit.int .i64 a1).wf = true) :
    Calls Try.prog 4 #[.string a0, .int .i64 a1] w fun e w' => e = .returned (.bool true) ∧ Below w.heap.size w w' := by
  obtain ⟨k, h⟩ := P a0 a1 w0 w1
  refine (reelkeeperlaw03_BlockBack.calls k a0 a1 true w h).mono ?_
  rintro e w' ⟨rfl, hd⟩
  exact ⟨rfl, hd⟩

end Go.Proofs.Ytdbnglmcimckmaa.M
