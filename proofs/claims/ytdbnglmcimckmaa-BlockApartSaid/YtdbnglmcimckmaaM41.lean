/- Part of a claim: what some functions of the program compute, each with its contract; no condition of its own. Written by a program of this workplace (gen.py, over the print of the kit) and by hand. -/
import Derived.Test.YtdbnglmcimckmaaM0
import Derived.Test.YtdbnglmcimckmaaM4
import Derived.Test.YtdbnglmcimckmaaM13
import Derived.Test.YtdbnglmcimckmaaM18
import Derived.Test.YtdbnglmcimckmaaM23
namespace Go.Proofs.Ytdbnglmcimckmaa.M
open Go.RowKit Go.Proofs.YtdbnglmcimckmaaW.PrintWords Go.Proofs.YtdbnglmcimckmaaW.PrintLast Go.Proofs.YtdbnglmcimckmaaW.PrintMore
attribute [local go_sem] max2_int min2_int max_two min_two max_three min_three max_four min_four   -- for this text's walks alone
set_option linter.unusedVariables false
set_option linter.unusedSimpArgs false

/-! ### reelkeeperlaw03_BlockApart: function 9 -/
def reelkeeperlaw03_BlockApart.j0 : Nat → ByteArray → ByteArray → Int → Bool → Bool → Option (Bool)
  | 0, _, _, _, _, _ => none
  | k + 1, x0, x1, x2, x7, x31 => if x31 = true then (some x7) else ((block_Cut.f x0).bind fun t249 => ((block_Cut.f x1).bind fun t252 => ((block_Same.f t249 t252).bind fun t255 => (if 0 ≤ x2 then (if (x2 : Int).toNat ≤ 281474976710656 then ((some (List.replicate (x2 : Int).toNat 0 : List Int)).bind fun y256 => (if x0.size + (strOfNums y256).size ≤ 9223372036854775807 then ((block_Cut.f x0).bind fun t259 => ((block_Cut.f (x0 ++ (strOfNums y256))).bind fun t262 => ((block_Same.f t259 t262).bind fun t265 => (if (x0.size : Int) = (x1.size : Int) then (if (t255 == (x0.toList == x1.toList)) = true then ((block_Many.f (x0.size : Int)).bind fun t266 => ((block_Many.f ((x0.size : Int) + ((strOfNums y256).size : Int))).bind fun t267 => (some (t265 == (t266 == t267))))) else (none)) else ((block_Many.f (x0.size : Int)).bind fun t268 => ((block_Many.f ((x0.size : Int) + ((strOfNums y256).size : Int))).bind fun t269 => (some (t265 == (t268 == t269))))))))) else (none))) else (none)) else (none)))))
def reelkeeperlaw03_BlockApart.f (k : Nat) (a0 : ByteArray) (a1 : ByteArray) (a2 : Int) : Option (Bool) := (reelkeeperlaw03_awake.f k).bind fun t248 => (if t248 = true then (if (a0.size : Int) > 2500 then (reelkeeperlaw03_BlockApart.j0 k a0 a1 a2 t248 true) else (if (a1.size : Int) > 2500 then (reelkeeperlaw03_BlockApart.j0 k a0 a1 a2 t248 true) else (if a2 < 0 then (reelkeeperlaw03_BlockApart.j0 k a0 a1 a2 t248 true) else (reelkeeperlaw03_BlockApart.j0 k a0 a1 a2 t248 (decide (a2 > 600)))))) else (reelkeeperlaw03_BlockApart.j0 k a0 a1 a2 t248 true))
theorem reelkeeperlaw03_BlockApart.mono_l : ∀ k, (∀ y0 y1 y2 y3 y4, LeO (reelkeeperlaw03_BlockApart.j0 k y0 y1 y2 y3 y4) (reelkeeperlaw03_BlockApart.j0 (k + 1) y0 y1 y2 y3 y4))
  | 0 => fun _ _ _ _ _ r h => by simp [reelkeeperlaw03_BlockApart.j0] at h
  | k + 1 => by
    have ih0 := reelkeeperlaw03_BlockApart.mono_l k
    · intro y0 y1 y2 y3 y4
      unfold reelkeeperlaw03_BlockApart.j0
      repeat' first
      | (with_reducible exact ih0 _ _ _ _ _)
      | (with_reducible exact reelkeeperlaw03_awake.mono _)
      | (with_reducible exact LeO.refl _)
      | (with_reducible exact LeO.none _)
      | (with_reducible refine LeO.ite ?_ ?_)
      | (with_reducible refine LeO.bind ?_ (fun _ => ?_))
      | exact ih0 _ _ _ _ _
      | exact reelkeeperlaw03_awake.mono _
      | exact LeO.none _
      | refine LeO.ite ?_ ?_
      | refine LeO.bind ?_ (fun _ => ?_)
theorem reelkeeperlaw03_BlockApart.mono : ∀ a0 a1 a2 k, LeO (reelkeeperlaw03_BlockApart.f k a0 a1 a2) (reelkeeperlaw03_BlockApart.f (k + 1) a0 a1 a2) := by
  intro a0 a1 a2 k
  have ih0 := reelkeeperlaw03_BlockApart.mono_l k
  unfold reelkeeperlaw03_BlockApart.f
  repeat' first
      | (with_reducible exact ih0 _ _ _ _ _)
      | (with_reducible exact reelkeeperlaw03_awake.mono _)
      | (with_reducible exact LeO.refl _)
      | (with_reducible exact LeO.none _)
      | (with_reducible refine LeO.ite ?_ ?_)
      | (with_reducible refine LeO.bind ?_ (fun _ => ?_))
      | exact ih0 _ _ _ _ _
      | exact reelkeeperlaw03_awake.mono _
      | exact LeO.none _
      | refine LeO.ite ?_ ?_
      | refine LeO.bind ?_ (fun _ => ?_)
set_option maxHeartbeats 8000000 in
set_option maxRecDepth 100000 in
theorem reelkeeperlaw03_BlockApart.calls (k : Nat) (a0 : ByteArray) (a1 : ByteArray) (a2 : Int) (r : Bool) (w : World) (h : reelkeeperlaw03_BlockApart.f k a0 a1 a2 = some r) :
    Calls Try.prog 9 #[.string a0, .string a1, .int .i64 a2] w fun e w' => e = .returned (.bool r) ∧ Below w.heap.size w w' := by
  have HB := Aside0.mk (Below.refl w.heap.size w)
  have H : ((reelkeeperlaw03_awake.f k).bind fun t248 => (if t248 = true then (if (a0.size : Int) > 2500 then (reelkeeperlaw03_BlockApart.j0 k a0 a1 a2 t248 true) else (if (a1.size : Int) > 2500 then (reelkeeperlaw03_BlockApart.j0 k a0 a1 a2 t248 true) else (if a2 < 0 then (reelkeeperlaw03_BlockApart.j0 k a0 a1 a2 t248 true) else (reelkeeperlaw03_BlockApart.j0 k a0 a1 a2 t248 (decide (a2 > 600)))))) else (reelkeeperlaw03_BlockApart.j0 k a0 a1 a2 t248 true))) = some r := h
  clear h
  replace H := Option.bind_eq_some_iff.mp H
  obtain ⟨t248, A40, H⟩ := H
  replace H : (if t248 = true then (if (a0.size : Int) > 2500 then (reelkeeperlaw03_BlockApart.j0 k a0 a1 a2 t248 true) else (if (a1.size : Int) > 2500 then (reelkeeperlaw03_BlockApart.j0 k a0 a1 a2 t248 true) else (if a2 < 0 then (reelkeeperlaw03_BlockApart.j0 k a0 a1 a2 t248 true) else (reelkeeperlaw03_BlockApart.j0 k a0 a1 a2 t248 (decide (a2 > 600)))))) else (reelkeeperlaw03_BlockApart.j0 k a0 a1 a2 t248 true)) = some r := H
  have A4 := Aside0.mk A40
  clear A40
  have HC5 := Aside0.mk H
  clear H
  go_enter Try.func9, Try.ntmps9
  go_upto_region 2 with (first | ((with_reducible refine gate_callee (f := 10) rfl ?_); refine goesL_ (some 11) rfl rfl Try.func10 (by kernel_rfl) rfl #[] rfl (by (try simp only [List.map_toArray, List.map_cons, List.map_nil]); first | done | rfl | (simp only [List.length_drop, List.length_take]; rfl)) ?_; (with_reducible refine (reelkeeperlaw03_awake.calls k  t248 _ A4.out).mono ?_); rintro e w6 ⟨rfl, hb⟩; refine ⟨_, rfl, ?_⟩; have n0_ := Aside0.mk (below_step (by repeat (first | (with_reducible first | exact HB.out | apply below_alloc | apply pw_below_drewN | apply below_drew1) | exact HB.out)) hb); clear HB; have HB := n0_; clear n0_; (try clear hb); (try clear hb2); (try clear hk); (try clear hi)))
  (try simp only [Act.put, List.setIfInBounds_toArray, List.set_cons_zero, List.set_cons_succ])
  go_cut [31] (fun v31 wc => ∃ (kq : Nat) (x31_4 : Bool), v31 = .bool x31_4 ∧ Aside0 (reelkeeperlaw03_BlockApart.j0 kq a0 a1 a2 t248 x31_4 = some r) ∧ Aside0 (kq ≤ k) ∧ Aside0 (Below w.heap.size w wc))
  case first =>
    have H := HC5.out
    clear HC5
    by_cases c7 : t248 = true
    · subst c7
      have H1 : (if (a0.size : Int) > 2500 then (reelkeeperlaw03_BlockApart.j0 k a0 a1 a2 true true) else (if (a1.size : Int) > 2500 then (reelkeeperlaw03_BlockApart.j0 k a0 a1 a2 true true) else (if a2 < 0 then (reelkeeperlaw03_BlockApart.j0 k a0 a1 a2 true true) else (reelkeeperlaw03_BlockApart.j0 k a0 a1 a2 true (decide (a2 > 600)))))) = some r := by rw [if_pos rfl] at H; exact H
      clear H
      have H := H1
      clear H1
      by_cases c8 : (a0.size : Int) > 2500
      · rw [if_pos c8] at H
        have c8b0 : decide (2500 < (a0.size : Int)) = true := decide_eq_true c8
        have c8b1 : decide (2500 < a0.size) = true := decide_eq_true (by omega)
        clear c8
        (first | rw [c8b0] | (simp only [i64_w, i32_w]; rw [c8b0]) | skip)
        have H' := Aside0.mk H
        clear H
        go_wp2
        go_meet
        case rel => exact ⟨_, (true), (by first | rfl | (simp; done) | (simp [*]; done)), H', ⟨by first | omega | exact Nat.le_refl _⟩, ⟨by repeat (first | (with_reducible first | exact HB.out | apply below_alloc | apply pw_below_drewN | apply below_drew1) | exact HB.out)⟩⟩
      · rw [if_neg c8] at H
        have c8b0 : decide (2500 < (a0.size : Int)) = false := decide_eq_false c8
        have c8b1 : decide (2500 < a0.size) = false := decide_eq_false (by omega)
        clear c8
        (first | rw [c8b0] | (simp only [i64_w, i32_w]; rw [c8b0]) | skip)
        by_cases c9 : (a1.size : Int) > 2500
        · rw [if_pos c9] at H
          have c9b0 : decide (2500 < (a1.size : Int)) = true := decide_eq_true c9
          have c9b1 : decide (2500 < a1.size) = true := decide_eq_true (by omega)
          clear c9
          have H' := Aside0.mk H
          clear H
          go_wp2
          go_meet
          case rel => exact ⟨_, (true), (by first | rfl | (simp; done) | (simp [*]; done)), H', ⟨by first | omega | exact Nat.le_refl _⟩, ⟨by repeat (first | (with_reducible first | exact HB.out | apply below_alloc | apply pw_below_drewN | apply below_drew1) | exact HB.out)⟩⟩
        · rw [if_neg c9] at H
          have c9b0 : decide (2500 < (a1.size : Int)) = false := decide_eq_false c9
          have c9b1 : decide (2500 < a1.size) = false := decide_eq_false (by omega)
          clear c9
          by_cases c10 : a2 < 0
          · rw [if_pos c10] at H
            have c10b0 : decide (a2 < 0) = true := decide_eq_true c10
            clear c10
            have H' := Aside0.mk H
            clear H
            go_wp2
            go_meet
            case rel => exact ⟨_, (true), (by first | rfl | (simp; done) | (simp [*]; done)), H', ⟨by first | omega | exact Nat.le_refl _⟩, ⟨by repeat (first | (with_reducible first | exact HB.out | apply below_alloc | apply pw_below_drewN | apply below_drew1) | exact HB.out)⟩⟩
          · rw [if_neg c10] at H
            have c10b0 : decide (a2 < 0) = false := decide_eq_false c10
            clear c10
            have H' := Aside0.mk H
            clear H
            go_wp2
            go_meet
            case rel => exact ⟨_, (decide (a2 > 600)), (by first | rfl | (simp; done) | (simp [*]; done)), H', ⟨by first | omega | exact Nat.le_refl _⟩, ⟨by repeat (first | (with_reducible first | exact HB.out | apply below_alloc | apply pw_below_drewN | apply below_drew1) | exact HB.out)⟩⟩
    · replace c7 := Bool.eq_false_iff.mpr c7
      subst c7
      have H1 : (reelkeeperlaw03_BlockApart.j0 k a0 a1 a2 false true) = some r := by rw [if_neg (show ¬ (false = true) by decide)] at H; exact H
      clear H
      have H := H1
      clear H1
      have H' := Aside0.mk H
      clear H
      go_wp2
      go_meet
      case rel => exact ⟨_, (true), (by first | rfl | (simp; done) | (simp [*]; done)), H', ⟨by first | omega | exact Nat.le_refl _⟩, ⟨by repeat (first | (with_reducible first | exact HB.out | apply below_alloc | apply pw_below_drewN | apply below_drew1) | exact HB.out)⟩⟩
  case rest =>
    clear HC5
    try clear c1
    try clear p2
    try clear c7
    try clear c8
    try clear c8b0
    try clear c8b1
    try clear c9
    try clear c9b0
    try clear c9b1
    try clear c10
    try clear c10b0
    obtain ⟨kq, x31_4, rfl, HA, HJ4, HB⟩ := hcut
    cases kq with
    | zero => exact absurd HA.out (by simp [reelkeeperlaw03_BlockApart.j0])
    | succ kj4 =>
      have H := HA.out
      clear HA
      simp only [reelkeeperlaw03_BlockApart.j0] at H
      by_cases c11 : x31_4 = true
      · subst c11
        have H1 : (some t248) = some r := by rw [if_pos rfl] at H; exact H
        clear H
        have H := H1
        clear H1
        obtain rfl := Option.some.inj H
        go_wp2
        go_ret
        exact ⟨by first | rfl | (simp [errW_none, errW_some] <;> rfl) | (simp [*, errW_none, errW_some] <;> rfl), by repeat (first | (with_reducible first | exact HB.out | apply below_alloc | apply pw_below_drewN | apply below_drew1) | exact HB.out)⟩
      · replace c11 := Bool.eq_false_iff.mpr c11
        subst c11
        have H1 : ((block_Cut.f a0).bind fun t249 => ((block_Cut.f a1).bind fun t252 => ((block_Same.f t249 t252).bind fun t255 => (if 0 ≤ a2 then (if (a2 : Int).toNat ≤ 281474976710656 then ((some (List.replicate (a2 : Int).toNat 0 : List Int)).bind fun y256 => (if a0.size + (strOfNums y256).size ≤ 9223372036854775807 then ((block_Cut.f a0).bind fun t259 => ((block_Cut.f (a0 ++ (strOfNums y256))).bind fun t262 => ((block_Same.f t259 t262).bind fun t265 => (if (a0.size : Int) = (a1.size : Int) then (if (t255 == (a0.toList == a1.toList)) = true then ((block_Many.f (a0.size : Int)).bind fun t266 => ((block_Many.f ((a0.size : Int) + ((strOfNums y256).size : Int))).bind fun t267 => (some (t265 == (t266 == t267))))) else (none)) else ((block_Many.f (a0.size : Int)).bind fun t268 => ((block_Many.f ((a0.size : Int) + ((strOfNums y256).size : Int))).bind fun t269 => (some (t265 == (t268 == t269))))))))) else (none))) else (none)) else (none))))) = some r := by rw [if_neg (show ¬ (false = true) by decide)] at H; exact H
        clear H
        have H := H1
        clear H1
        replace H := Option.bind_eq_some_iff.mp H
        obtain ⟨t249, A120, H⟩ := H
        replace H : ((block_Cut.f a1).bind fun t252 => ((block_Same.f t249 t252).bind fun t255 => (if 0 ≤ a2 then (if (a2 : Int).toNat ≤ 281474976710656 then ((some (List.replicate (a2 : Int).toNat 0 : List Int)).bind fun y256 => (if a0.size + (strOfNums y256).size ≤ 9223372036854775807 then ((block_Cut.f a0).bind fun t259 => ((block_Cut.f (a0 ++ (strOfNums y256))).bind fun t262 => ((block_Same.f t259 t262).bind fun t265 => (if (a0.size : Int) = (a1.size : Int) then (if (t255 == (a0.toList == a1.toList)) = true then ((block_Many.f (a0.size : Int)).bind fun t266 => ((block_Many.f ((a0.size : Int) + ((strOfNums y256).size : Int))).bind fun t267 => (some (t265 == (t266 == t267))))) else (none)) else ((block_Many.f (a0.size : Int)).bind fun t268 => ((block_Many.f ((a0.size : Int) + ((strOfNums y256).size : Int))).bind fun t269 => (some (t265 == (t268 == t269))))))))) else (none))) else (none)) else (none)))) = some r := H
        have A12 := Aside0.mk A120
        clear A120
        replace H := Option.bind_eq_some_iff.mp H
        obtain ⟨t252, A130, H⟩ := H
        replace H : ((block_Same.f t249 t252).bind fun t255 => (if 0 ≤ a2 then (if (a2 : Int).toNat ≤ 281474976710656 then ((some (List.replicate (a2 : Int).toNat 0 : List Int)).bind fun y256 => (if a0.size + (strOfNums y256).size ≤ 9223372036854775807 then ((block_Cut.f a0).bind fun t259 => ((block_Cut.f (a0 ++ (strOfNums y256))).bind fun t262 => ((block_Same.f t259 t262).bind fun t265 => (if (a0.size : Int) = (a1.size : Int) then (if (t255 == (a0.toList == a1.toList)) = true then ((block_Many.f (a0.size : Int)).bind fun t266 => ((block_Many.f ((a0.size : Int) + ((strOfNums y256).size : Int))).bind fun t267 => (some (t265 == (t266 == t267))))) else (none)) else ((block_Many.f (a0.size : Int)).bind fun t268 => ((block_Many.f ((a0.size : Int) + ((strOfNums y256).size : Int))).bind fun t269 => (some (t265 == (t268 == t269))))))))) else (none))) else (none)) else (none))) = some r := H
        have A13 := Aside0.mk A130
        clear A130
        replace H := Option.bind_eq_some_iff.mp H
        obtain ⟨t255, A140, H⟩ := H
        replace H : (if 0 ≤ a2 then (if (a2 : Int).toNat ≤ 281474976710656 then ((some (List.replicate (a2 : Int).toNat 0 : List Int)).bind fun y256 => (if a0.size + (strOfNums y256).size ≤ 9223372036854775807 then ((block_Cut.f a0).bind fun t259 => ((block_Cut.f (a0 ++ (strOfNums y256))).bind fun t262 => ((block_Same.f t259 t262).bind fun t265 => (if (a0.size : Int) = (a1.size : Int) then (if (t255 == (a0.toList == a1.toList)) = true then ((block_Many.f (a0.size : Int)).bind fun t266 => ((block_Many.f ((a0.size : Int) + ((strOfNums y256).size : Int))).bind fun t267 => (some (t265 == (t266 == t267))))) else (none)) else ((block_Many.f (a0.size : Int)).bind fun t268 => ((block_Many.f ((a0.size : Int) + ((strOfNums y256).size : Int))).bind fun t269 => (some (t265 == (t268 == t269))))))))) else (none))) else (none)) else (none)) = some r := H
        have A14 := Aside0.mk A140
        clear A140
        by_cases c15 : 0 ≤ a2
        · rw [if_pos c15] at H
          have c15b0 := eq_true c15
          have c15b1 : decide (0 ≤ a2) = true := decide_eq_true c15
          clear c15
          by_cases c16 : (a2 : Int).toNat ≤ 281474976710656
          · rw [if_pos c16] at H
            have c16b0 := eq_true c16
            have c16b1 : decide ((a2 : Int).toNat ≤ 281474976710656) = true := decide_eq_true c16
            clear c16
            obtain ⟨y256, hy256⟩ : ∃ y_ : List Int, y_ = (List.replicate (a2 : Int).toNat 0) := ⟨_, rfl⟩
            replace H : (if a0.size + (strOfNums y256).size ≤ 9223372036854775807 then ((block_Cut.f a0).bind fun t259 => ((block_Cut.f (a0 ++ (strOfNums y256))).bind fun t262 => ((block_Same.f t259 t262).bind fun t265 => (if (a0.size : Int) = (a1.size : Int) then (if (t255 == (a0.toList == a1.toList)) = true then ((block_Many.f (a0.size : Int)).bind fun t266 => ((block_Many.f ((a0.size : Int) + ((strOfNums y256).size : Int))).bind fun t267 => (some (t265 == (t266 == t267))))) else (none)) else ((block_Many.f (a0.size : Int)).bind fun t268 => ((block_Many.f ((a0.size : Int) + ((strOfNums y256).size : Int))).bind fun t269 => (some (t265 == (t268 == t269))))))))) else (none)) = some r := by first | (rw [hy256]; with_reducible exact H) | (have H2_ := (Option.bind_some _ _).symm.trans H; rw [hy256]; with_reducible exact H2_) | (have H2_ := (Option.bind_some _ _).symm.trans H; with_reducible exact H2_) | with_reducible exact H | (rw [hy256]; exact H) | exact H
            have Ny256 := Aside0.mk hy256
            clear hy256
            by_cases c17 : a0.size + (strOfNums y256).size ≤ 9223372036854775807
            · rw [if_pos c17] at H
              have c17b0 := eq_true c17
              have c17b1 : decide (a0.size + (strOfNums y256).size ≤ 9223372036854775807) = true := decide_eq_true c17
              try have c17b2 : (9223372036854775807 < a0.size + (strOfNums y256).size) = False := eq_false (Nat.not_lt.2 c17)
              replace H := Option.bind_eq_some_iff.mp H
              obtain ⟨t259, A180, H⟩ := H
              replace H : ((block_Cut.f (a0 ++ (strOfNums y256))).bind fun t262 => ((block_Same.f t259 t262).bind fun t265 => (if (a0.size : Int) = (a1.size : Int) then (if (t255 == (a0.toList == a1.toList)) = true then ((block_Many.f (a0.size : Int)).bind fun t266 => ((block_Many.f ((a0.size : Int) + ((strOfNums y256).size : Int))).bind fun t267 => (some (t265 == (t266 == t267))))) else (none)) else ((block_Many.f (a0.size : Int)).bind fun t268 => ((block_Many.f ((a0.size : Int) + ((strOfNums y256).size : Int))).bind fun t269 => (some (t265 == (t268 == t269)))))))) = some r := H
              have A18 := Aside0.mk A180
              clear A180
              replace H := Option.bind_eq_some_iff.mp H
              obtain ⟨t262, A190, H⟩ := H
              replace H : ((block_Same.f t259 t262).bind fun t265 => (if (a0.size : Int) = (a1.size : Int) then (if (t255 == (a0.toList == a1.toList)) = true then ((block_Many.f (a0.size : Int)).bind fun t266 => ((block_Many.f ((a0.size : Int) + ((strOfNums y256).size : Int))).bind fun t267 => (some (t265 == (t266 == t267))))) else (none)) else ((block_Many.f (a0.size : Int)).bind fun t268 => ((block_Many.f ((a0.size : Int) + ((strOfNums y256).size : Int))).bind fun t269 => (some (t265 == (t268 == t269))))))) = some r := H
              have A19 := Aside0.mk A190
              clear A190
              replace H := Option.bind_eq_some_iff.mp H
              obtain ⟨t265, A200, H⟩ := H
              replace H : (if (a0.size : Int) = (a1.size : Int) then (if (t255 == (a0.toList == a1.toList)) = true then ((block_Many.f (a0.size : Int)).bind fun t266 => ((block_Many.f ((a0.size : Int) + ((strOfNums y256).size : Int))).bind fun t267 => (some (t265 == (t266 == t267))))) else (none)) else ((block_Many.f (a0.size : Int)).bind fun t268 => ((block_Many.f ((a0.size : Int) + ((strOfNums y256).size : Int))).bind fun t269 => (some (t265 == (t268 == t269)))))) = some r := H
              have A20 := Aside0.mk A200
              clear A200
              by_cases c21 : (a0.size : Int) = (a1.size : Int)
              · rw [if_pos c21] at H
                have c21b0 : ((a0.size : Int) == (a1.size : Int)) = true := beq_iff_eq.mpr c21
                have c21b1 : ((a0.size : Int) != (a1.size : Int)) = false := bne_eq_false_iff_eq.mpr c21
                have c21b2 : (a0.size == a1.size) = true := by first | simpa using c21 | (simp at c21 ⊢; omega)
                clear c21
                by_cases c22 : (t255 == (a0.toList == a1.toList)) = true
                · rw [if_pos c22] at H
                  have c22b0 : (t255 == (a0.toList == a1.toList)) = true := c22
                  (try (have c22b1 : decide (t255 = (a0.toList == a1.toList)) = true := by simpa using c22))
                  (try (have c22b2 : (t255 == (a0.toList == a1.toList)) = true := by simpa using c22))
                  clear c22
                  replace H := Option.bind_eq_some_iff.mp H
                  obtain ⟨t266, A230, H⟩ := H
                  replace H : ((block_Many.f ((a0.size : Int) + ((strOfNums y256).size : Int))).bind fun t267 => (some (t265 == (t266 == t267)))) = some r := H
                  have A23 := Aside0.mk A230
                  clear A230
                  replace H := Option.bind_eq_some_iff.mp H
                  obtain ⟨t267, A240, H⟩ := H
                  replace H : (some (t265 == (t266 == t267))) = some r := H
                  have A24 := Aside0.mk A240
                  clear A240
                  obtain rfl := Option.some.inj H
                  go_wp2_with (first | ((with_reducible refine gate_callee (f := 15) rfl ?_); refine goesL_ (some 34) rfl rfl Try.func15 (by kernel_rfl) rfl #[.string a0] rfl (by (try simp only [List.map_toArray, List.map_cons, List.map_nil]); first | done | rfl | (simp only [List.length_drop, List.length_take]; rfl)) ?_; (with_reducible refine (block_Cut.calls a0 t249 _ A12.out).mono ?_); rintro e w25 ⟨v250, rfl, ho0, hb⟩; refine ⟨_, rfl, ?_⟩; have n0_ := Aside0.mk (Kd.S_lower ho0 (below_size (by repeat (first | (with_reducible first | exact HB.out | apply below_alloc | apply pw_below_drewN | apply below_drew1) | exact HB.out)))); have n1_ := Aside0.mk (below_step (by repeat (first | (with_reducible first | exact HB.out | apply below_alloc | apply pw_below_drewN | apply below_drew1) | exact HB.out)) hb); clear HB; have HO251 := n0_; have HB := n1_; clear n0_ n1_; (try clear hb); (try clear hb2); (try clear hk); (try clear hi); (try clear ho0)) | ((with_reducible refine gate_callee (f := 15) rfl ?_); refine goesL_ (some 36) rfl rfl Try.func15 (by kernel_rfl) rfl #[.string a1] rfl (by (try simp only [List.map_toArray, List.map_cons, List.map_nil]); first | done | rfl | (simp only [List.length_drop, List.length_take]; rfl)) ?_; (with_reducible refine (block_Cut.calls a1 t252 _ A13.out).mono ?_); rintro e w26 ⟨v253, rfl, ho0, hb⟩; refine ⟨_, rfl, ?_⟩; have n0_ := Aside0.mk (Kd.S_elder' (by (with_reducible repeat (first | apply Kd.S_alloc | apply Kd.S_drewN | apply Kd.S_drew)); exact HO251.out) (Kd.S_base ho0) hb); have n1_ := Aside0.mk (Kd.S_lower (Kd.S_new' ho0 (Kd.S_lt (by (with_reducible repeat (first | apply Kd.S_alloc | apply Kd.S_drewN | apply Kd.S_drew)); exact HO251.out))) (below_size (by repeat (first | (with_reducible first | exact HB.out | apply below_alloc | apply pw_below_drewN | apply below_drew1) | exact HB.out)))); have n2_ := Aside0.mk (below_step (by repeat (first | (with_reducible first | exact HB.out | apply below_alloc | apply pw_below_drewN | apply below_drew1) | exact HB.out)) hb); clear HO251; clear HB; have HO251 := n0_; have HO254 := n1_; have HB := n2_; clear n0_ n1_ n2_; (try clear hb); (try clear hb2); (try clear hk); (try clear hi); (try clear ho0); obtain ⟨Ao27, co27, eo27⟩ := Kd.S_slice HO251.out; subst eo27; obtain ⟨Ao28, co28, eo28⟩ := Kd.S_slice HO254.out; subst eo28) | ((with_reducible refine gate_callee (f := 24) rfl ?_); refine goesL_ (some 37) rfl rfl Try.func24 (by kernel_rfl) rfl #[.slice Ao27 t249.length co27, .slice Ao28 t252.length co28] rfl (by (try simp only [List.map_toArray, List.map_cons, List.map_nil]); first | done | rfl | (simp only [List.length_drop, List.length_take]; rfl)) ?_; (with_reducible refine (block_Same.calls _ _ t249 _ _ t252 t255 _ ?side1 ?side2 ?side3 ?side4 A14.out).mono ?_); (case side1 => repeat (first | exact (Kd.S_reads' HO251.out).2.2 | (with_reducible refine Kd.C_alloc ?_ _) | (with_reducible refine Kd.C_drewN ?_ _) | (with_reducible refine Kd.C_drew ?_))); (case side2 => exact (Kd.S_reads' HO251.out).2.1); (case side3 => repeat (first | exact (Kd.S_reads' HO254.out).2.2 | (with_reducible refine Kd.C_alloc ?_ _) | (with_reducible refine Kd.C_drewN ?_ _) | (with_reducible refine Kd.C_drew ?_))); (case side4 => exact (Kd.S_reads' HO254.out).2.1); rintro e w' ⟨rfl, ⟨nd, rfl⟩⟩; refine ⟨_, rfl, ?_⟩) | ((with_reducible refine gate_dst (N := 40) rfl ?_); (try (refine gate_guard (by rfl) ?_; dsimp only)); refine Kd.R_make (Kd.int .u8) _ 5 rfl (N := 40) rfl 31 _ _ rfl a2 rfl rfl Try.underlying31 (.int .u8 0) 1 info5 rfl (by decide) (by omega) 0 (ok := fun _ => True) (okp := fun _ => True) rfl (fun _ hk => hk) trivial (of_decide_eq_true (by first | (with_reducible assumption) | assumption)) (Nat.le_trans (Nat.mul_le_mul_right _ (of_decide_eq_true (by first | (with_reducible assumption) | assumption) : a2.toNat ≤ 281474976710656)) (by omega)) (Below.refl _ _) (Nat.le_refl _) ?_; intro v257 w29 ho30 hb hg_ hnew_; clear hg_ hnew_; (first | rw [← Ny256.out] at ho30 | (simp only [Int.reduceToNat] at ho30; rw [← Ny256.out] at ho30)); have n0_ := Aside0.mk (Kd.S_elder' (by (with_reducible repeat (first | apply Kd.S_alloc | apply Kd.S_drewN | apply Kd.S_drew)); exact HO251.out) (Kd.R_base ho30) hb); have n1_ := Aside0.mk (Kd.S_elder' (by (with_reducible repeat (first | apply Kd.S_alloc | apply Kd.S_drewN | apply Kd.S_drew)); exact HO254.out) (Kd.R_base ho30) hb); have n2_ := Aside0.mk (Kd.R_lower ho30 (below_size (by repeat (first | (with_reducible first | exact HB.out | apply below_alloc | apply pw_below_drewN | apply below_drew1) | exact HB.out)))); have n3_ := Aside0.mk (below_step (by repeat (first | (with_reducible first | exact HB.out | apply below_alloc | apply pw_below_drewN | apply below_drew1) | exact HB.out)) hb); clear HO251; clear HO254; clear HB; have HO251 := n0_; have HO254 := n1_; have HO258 := n2_; have HB := n3_; clear n0_ n1_ n2_ n3_; clear hb ho30; have hcv31 := own_string (P := Try.prog) Try.underlying31 Try.underlying5 Try.underlying9 (Kd.own_of_R HO258.out)) | ((with_reducible refine gate_callee (f := 15) rfl ?_); refine goesL_ (some 44) rfl rfl Try.func15 (by kernel_rfl) rfl #[.string a0] rfl (by (try simp only [List.map_toArray, List.map_cons, List.map_nil]); first | done | rfl | (simp only [List.length_drop, List.length_take]; rfl)) ?_; (with_reducible refine (block_Cut.calls a0 t259 _ A18.out).mono ?_); rintro e w32 ⟨v260, rfl, ho0, hb⟩; refine ⟨_, rfl, ?_⟩; have n0_ := Aside0.mk (Kd.S_elder' (by (with_reducible repeat (first | apply Kd.S_alloc | apply Kd.S_drewN | apply Kd.S_drew)); exact HO251.out) (Kd.S_base ho0) hb); have n1_ := Aside0.mk (Kd.S_elder' (by (with_reducible repeat (first | apply Kd.S_alloc | apply Kd.S_drewN | apply Kd.S_drew)); exact HO254.out) (Kd.S_base ho0) hb); have n2_ := Aside0.mk (Kd.R_below (by (with_reducible repeat (first | apply Kd.R_alloc | apply Kd.R_drewN | apply Kd.R_drew)); exact HO258.out) hb); have n3_ := Aside0.mk (Kd.S_lower (Kd.S_new' (Kd.S_new' (Kd.S_new' ho0 (Kd.S_lt (by (with_reducible repeat (first | apply Kd.S_alloc | apply Kd.S_drewN | apply Kd.S_drew)); exact HO251.out))) (Kd.S_lt (by (with_reducible repeat (first | apply Kd.S_alloc | apply Kd.S_drewN | apply Kd.S_drew)); exact HO254.out))) (Kd.R_lt (by (with_reducible repeat (first | apply Kd.R_alloc | apply Kd.R_drewN | apply Kd.R_drew)); exact HO258.out))) (below_size (by repeat (first | (with_reducible first | exact HB.out | apply below_alloc | apply pw_below_drewN | apply below_drew1) | exact HB.out)))); have n4_ := Aside0.mk (below_step (by repeat (first | (with_reducible first | exact HB.out | apply below_alloc | apply pw_below_drewN | apply below_drew1) | exact HB.out)) hb); clear HO251; clear HO254; clear HO258; clear HB; have HO251 := n0_; have HO254 := n1_; have HO258 := n2_; have HO261 := n3_; have HB := n4_; clear n0_ n1_ n2_ n3_ n4_; (try clear hb); (try clear hb2); (try clear hk); (try clear hi); (try clear ho0)) | ((with_reducible refine gate_callee (f := 15) rfl ?_); refine goesL_ (some 46) rfl rfl Try.func15 (by kernel_rfl) rfl #[.string (a0 ++ (strOfNums y256))] rfl (by (try simp only [List.map_toArray, List.map_cons, List.map_nil]); first | done | rfl | (simp only [List.length_drop, List.length_take]; rfl)) ?_; (with_reducible refine (block_Cut.calls (a0 ++ (strOfNums y256)) t262 _ A19.out).mono ?_); rintro e w33 ⟨v263, rfl, ho0, hb⟩; refine ⟨_, rfl, ?_⟩; have n0_ := Aside0.mk (Kd.S_elder' (by (with_reducible repeat (first | apply Kd.S_alloc | apply Kd.S_drewN | apply Kd.S_drew)); exact HO251.out) (Kd.S_base ho0) hb); have n1_ := Aside0.mk (Kd.S_elder' (by (with_reducible repeat (first | apply Kd.S_alloc | apply Kd.S_drewN | apply Kd.S_drew)); exact HO254.out) (Kd.S_base ho0) hb); have n2_ := Aside0.mk (Kd.R_below (by (with_reducible repeat (first | apply Kd.R_alloc | apply Kd.R_drewN | apply Kd.R_drew)); exact HO258.out) hb); have n3_ := Aside0.mk (Kd.S_elder' (by (with_reducible repeat (first | apply Kd.S_alloc | apply Kd.S_drewN | apply Kd.S_drew)); exact HO261.out) (Kd.S_base ho0) hb); have n4_ := Aside0.mk (Kd.S_lower (Kd.S_new' (Kd.S_new' (Kd.S_new' (Kd.S_new' ho0 (Kd.S_lt (by (with_reducible repeat (first | apply Kd.S_alloc | apply Kd.S_drewN | apply Kd.S_drew)); exact HO251.out))) (Kd.S_lt (by (with_reducible repeat (first | apply Kd.S_alloc | apply Kd.S_drewN | apply Kd.S_drew)); exact HO254.out))) (Kd.R_lt (by (with_reducible repeat (first | apply Kd.R_alloc | apply Kd.R_drewN | apply Kd.R_drew)); exact HO258.out))) (Kd.S_lt (by (with_reducible repeat (first | apply Kd.S_alloc | apply Kd.S_drewN | apply Kd.S_drew)); exact HO261.out))) (below_size (by repeat (first | (with_reducible first | exact HB.out | apply below_alloc | apply pw_below_drewN | apply below_drew1) | exact HB.out)))); have n5_ := Aside0.mk (below_step (by repeat (first | (with_reducible first | exact HB.out | apply below_alloc | apply pw_below_drewN | apply below_drew1) | exact HB.out)) hb); clear HO251; clear HO254; clear HO258; clear HO261; clear HB; have HO251 := n0_; have HO254 := n1_; have HO258 := n2_; have HO261 := n3_; have HO264 := n4_; have HB := n5_; clear n0_ n1_ n2_ n3_ n4_ n5_; (try clear hb); (try clear hb2); (try clear hk); (try clear hi); (try clear ho0); obtain ⟨Ao34, co34, eo34⟩ := Kd.S_slice HO261.out; subst eo34; obtain ⟨Ao35, co35, eo35⟩ := Kd.S_slice HO264.out; subst eo35) | ((with_reducible refine gate_callee (f := 24) rfl ?_); refine goesL_ (some 47) rfl rfl Try.func24 (by kernel_rfl) rfl #[.slice Ao34 t259.length co34, .slice Ao35 t262.length co35] rfl (by (try simp only [List.map_toArray, List.map_cons, List.map_nil]); first | done | rfl | (simp only [List.length_drop, List.length_take]; rfl)) ?_; (with_reducible refine (block_Same.calls _ _ t259 _ _ t262 t265 _ ?side1 ?side2 ?side3 ?side4 A20.out).mono ?_); (case side1 => repeat (first | exact (Kd.S_reads' HO261.out).2.2 | (with_reducible refine Kd.C_alloc ?_ _) | (with_reducible refine Kd.C_drewN ?_ _) | (with_reducible refine Kd.C_drew ?_))); (case side2 => exact (Kd.S_reads' HO261.out).2.1); (case side3 => repeat (first | exact (Kd.S_reads' HO264.out).2.2 | (with_reducible refine Kd.C_alloc ?_ _) | (with_reducible refine Kd.C_drewN ?_ _) | (with_reducible refine Kd.C_drew ?_))); (case side4 => exact (Kd.S_reads' HO264.out).2.1); rintro e w' ⟨rfl, ⟨nd, rfl⟩⟩; refine ⟨_, rfl, ?_⟩) | (go_at_call 21; (with_reducible refine (block_Many.calls (a0.size : Int) t266 _ A23.out).mono ?_); rintro e w' ⟨rfl, ⟨nd, rfl⟩⟩) | (go_at_call 21; (with_reducible refine (block_Many.calls ((a0.size : Int) + ((strOfNums y256).size : Int)) t267 _ A24.out).mono ?_); rintro e w' ⟨rfl, ⟨nd, rfl⟩⟩))
                  go_ret
                  exact ⟨by first | rfl | (simp [errW_none, errW_some] <;> rfl) | (simp [*, errW_none, errW_some] <;> rfl), by repeat (first | (with_reducible first | exact HB.out | apply below_alloc | apply pw_below_drewN | apply below_drew1) | exact HB.out)⟩
                · rw [if_neg c22] at H
                  exact absurd H (by simp)
              · rw [if_neg c21] at H
                have c21b0 : ((a0.size : Int) == (a1.size : Int)) = false := beq_eq_false_iff_ne.mpr c21
                have c21b1 : ((a0.size : Int) != (a1.size : Int)) = true := bne_iff_ne.mpr c21
                have c21b2 : (a0.size == a1.size) = false := by first | simpa using c21 | (simp at c21 ⊢; omega)
                replace H := Option.bind_eq_some_iff.mp H
                obtain ⟨t268, A360, H⟩ := H
                replace H : ((block_Many.f ((a0.size : Int) + ((strOfNums y256).size : Int))).bind fun t269 => (some (t265 == (t268 == t269)))) = some r := H
                have A36 := Aside0.mk A360
                clear A360
                replace H := Option.bind_eq_some_iff.mp H
                obtain ⟨t269, A370, H⟩ := H
                replace H : (some (t265 == (t268 == t269))) = some r := H
                have A37 := Aside0.mk A370
                clear A370
                obtain rfl := Option.some.inj H
                go_wp2_with (first | ((with_reducible refine gate_callee (f := 15) rfl ?_); refine goesL_ (some 34) rfl rfl Try.func15 (by kernel_rfl) rfl #[.string a0] rfl (by (try simp only [List.map_toArray, List.map_cons, List.map_nil]); first | done | rfl | (simp only [List.length_drop, List.length_take]; rfl)) ?_; (with_reducible refine (block_Cut.calls a0 t249 _ A12.out).mono ?_); rintro e w38 ⟨v250, rfl, ho0, hb⟩; refine ⟨_, rfl, ?_⟩; have n0_ := Aside0.mk (Kd.S_lower ho0 (below_size (by repeat (first | (with_reducible first | exact HB.out | apply below_alloc | apply pw_below_drewN | apply below_drew1) | exact HB.out)))); have n1_ := Aside0.mk (below_step (by repeat (first | (with_reducible first | exact HB.out | apply below_alloc | apply pw_below_drewN | apply below_drew1) | exact HB.out)) hb); clear HB; have HO251 := n0_; have HB := n1_; clear n0_ n1_; (try clear hb); (try clear hb2); (try clear hk); (try clear hi); (try clear ho0)) | ((with_reducible refine gate_callee (f := 15) rfl ?_); refine goesL_ (some 36) rfl rfl Try.func15 (by kernel_rfl) rfl #[.string a1] rfl (by (try simp only [List.map_toArray, List.map_cons, List.map_nil]); first | done | rfl | (simp only [List.length_drop, List.length_take]; rfl)) ?_; (with_reducible refine (block_Cut.calls a1 t252 _ A13.out).mono ?_); rintro e w39 ⟨v253, rfl, ho0, hb⟩; refine ⟨_, rfl, ?_⟩; have n0_ := Aside0.mk (Kd.S_elder' (by (with_reducible repeat (first | apply Kd.S_alloc | apply Kd.S_drewN | apply Kd.S_drew)); exact HO251.out) (Kd.S_base ho0) hb); have n1_ := Aside0.mk (Kd.S_lower (Kd.S_new' ho0 (Kd.S_lt (by (with_reducible repeat (first | apply Kd.S_alloc | apply Kd.S_drewN | apply Kd.S_drew)); exact HO251.out))) (below_size (by repeat (first | (with_reducible first | exact HB.out | apply below_alloc | apply pw_below_drewN | apply below_drew1) | exact HB.out)))); have n2_ := Aside0.mk (below_step (by repeat (first | (with_reducible first | exact HB.out | apply below_alloc | apply pw_below_drewN | apply below_drew1) | exact HB.out)) hb); clear HO251; clear HB; have HO251 := n0_; have HO254 := n1_; have HB := n2_; clear n0_ n1_ n2_; (try clear hb); (try clear hb2); (try clear hk); (try clear hi); (try clear ho0); obtain ⟨Ao40, co40, eo40⟩ := Kd.S_slice HO251.out; subst eo40; obtain ⟨Ao41, co41, eo41⟩ := Kd.S_slice HO254.out; subst eo41) | ((with_reducible refine gate_callee (f := 24) rfl ?_); refine goesL_ (some 37) rfl rfl Try.func24 (by kernel_rfl) rfl #[.slice Ao40 t249.length co40, .slice Ao41 t252.length co41] rfl (by (try simp only [List.map_toArray, List.map_cons, List.map_nil]); first | done | rfl | (simp only [List.length_drop, List.length_take]; rfl)) ?_; (with_reducible refine (block_Same.calls _ _ t249 _ _ t252 t255 _ ?side1 ?side2 ?side3 ?side4 A14.out).mono ?_); (case side1 => repeat (first | exact (Kd.S_reads' HO251.out).2.2 | (with_reducible refine Kd.C_alloc ?_ _) | (with_reducible refine Kd.C_drewN ?_ _) | (with_reducible refine Kd.C_drew ?_))); (case side2 => exact (Kd.S_reads' HO251.out).2.1); (case side3 => repeat (first | exact (Kd.S_reads' HO254.out).2.2 | (with_reducible refine Kd.C_alloc ?_ _) | (with_reducible refine Kd.C_drewN ?_ _) | (with_reducible refine Kd.C_drew ?_))); (case side4 => exact (Kd.S_reads' HO254.out).2.1); rintro e w' ⟨rfl, ⟨nd, rfl⟩⟩; refine ⟨_, rfl, ?_⟩) | ((with_reducible refine gate_dst (N := 40) rfl ?_); (try (refine gate_guard (by rfl) ?_; dsimp only)); refine Kd.R_make (Kd.int .u8) _ 5 rfl (N := 40) rfl 31 _ _ rfl a2 rfl rfl Try.underlying31 (.int .u8 0) 1 info5 rfl (by decide) (by omega) 0 (ok := fun _ => True) (okp := fun _ => True) rfl (fun _ hk => hk) trivial (of_decide_eq_true (by first | (with_reducible assumption) | assumption)) (Nat.le_trans (Nat.mul_le_mul_right _ (of_decide_eq_true (by first | (with_reducible assumption) | assumption) : a2.toNat ≤ 281474976710656)) (by omega)) (Below.refl _ _) (Nat.le_refl _) ?_; intro v257 w42 ho43 hb hg_ hnew_; clear hg_ hnew_; (first | rw [← Ny256.out] at ho43 | (simp only [Int.reduceToNat] at ho43; rw [← Ny256.out] at ho43)); have n0_ := Aside0.mk (Kd.S_elder' (by (with_reducible repeat (first | apply Kd.S_alloc | apply Kd.S_drewN | apply Kd.S_drew)); exact HO251.out) (Kd.R_base ho43) hb); have n1_ := Aside0.mk (Kd.S_elder' (by (with_reducible repeat (first | apply Kd.S_alloc | apply Kd.S_drewN | apply Kd.S_drew)); exact HO254.out) (Kd.R_base ho43) hb); have n2_ := Aside0.mk (Kd.R_lower ho43 (below_size (by repeat (first | (with_reducible first | exact HB.out | apply below_alloc | apply pw_below_drewN | apply below_drew1) | exact HB.out)))); have n3_ := Aside0.mk (below_step (by repeat (first | (with_reducible first | exact HB.out | apply below_alloc | apply pw_below_drewN | apply below_drew1) | exact HB.out)) hb); clear HO251; clear HO254; clear HB; have HO251 := n0_; have HO254 := n1_; have HO258 := n2_; have HB := n3_; clear n0_ n1_ n2_ n3_; clear hb ho43; have hcv44 := own_string (P := Try.prog) Try.underlying31 Try.underlying5 Try.underlying9 (Kd.own_of_R HO258.out)) | ((with_reducible refine gate_callee (f := 15) rfl ?_); refine goesL_ (some 44) rfl rfl Try.func15 (by kernel_rfl) rfl #[.string a0] rfl (by (try simp only [List.map_toArray, List.map_cons, List.map_nil]); first | done | rfl | (simp only [List.length_drop, List.length_take]; rfl)) ?_; (with_reducible refine (block_Cut.calls a0 t259 _ A18.out).mono ?_); rintro e w45 ⟨v260, rfl, ho0, hb⟩; refine ⟨_, rfl, ?_⟩; have n0_ := Aside0.mk (Kd.S_elder' (by (with_reducible repeat (first | apply Kd.S_alloc | apply Kd.S_drewN | apply Kd.S_drew)); exact HO251.out) (Kd.S_base ho0) hb); have n1_ := Aside0.mk (Kd.S_elder' (by (with_reducible repeat (first | apply Kd.S_alloc | apply Kd.S_drewN | apply Kd.S_drew)); exact HO254.out) (Kd.S_base ho0) hb); have n2_ := Aside0.mk (Kd.R_below (by (with_reducible repeat (first | apply Kd.R_alloc | apply Kd.R_drewN | apply Kd.R_drew)); exact HO258.out) hb); have n3_ := Aside0.mk (Kd.S_lower (Kd.S_new' (Kd.S_new' (Kd.S_new' ho0 (Kd.S_lt (by (with_reducible repeat (first | apply Kd.S_alloc | apply Kd.S_drewN | apply Kd.S_drew)); exact HO251.out))) (Kd.S_lt (by (with_reducible repeat (first | apply Kd.S_alloc | apply Kd.S_drewN | apply Kd.S_drew)); exact HO254.out))) (Kd.R_lt (by (with_reducible repeat (first | apply Kd.R_alloc | apply Kd.R_drewN | apply Kd.R_drew)); exact HO258.out))) (below_size (by repeat (first | (with_reducible first | exact HB.out | apply below_alloc | apply pw_below_drewN | apply below_drew1) | exact HB.out)))); have n4_ := Aside0.mk (below_step (by repeat (first | (with_reducible first | exact HB.out | apply below_alloc | apply pw_below_drewN | apply below_drew1) | exact HB.out)) hb); clear HO251; clear HO254; clear HO258; clear HB; have HO251 := n0_; have HO254 := n1_; have HO258 := n2_; have HO261 := n3_; have HB := n4_; clear n0_ n1_ n2_ n3_ n4_; (try clear hb); (try clear hb2); (try clear hk); (try clear hi); (try clear ho0)) | ((with_reducible refine gate_callee (f := 15) rfl ?_); refine goesL_ (some 46) rfl rfl Try.func15 (by kernel_rfl) rfl #[.string (a0 ++ (strOfNums y256))] rfl (by (try simp only [List.map_toArray, List.map_cons, List.map_nil]); first | done | rfl | (simp only [List.length_drop, List.length_take]; rfl)) ?_; (with_reducible refine (block_Cut.calls (a0 ++ (strOfNums y256)) t262 _ A19.out).mono ?_); rintro e w46 ⟨v263, rfl, ho0, hb⟩; refine ⟨_, rfl, ?_⟩; have n0_ := Aside0.mk (Kd.S_elder' (by (with_reducible repeat (first | apply Kd.S_alloc | apply Kd.S_drewN | apply Kd.S_drew)); exact HO251.out) (Kd.S_base ho0) hb); have n1_ := Aside0.mk (Kd.S_elder' (by (with_reducible repeat (first | apply Kd.S_alloc | apply Kd.S_drewN | apply Kd.S_drew)); exact HO254.out) (Kd.S_base ho0) hb); have n2_ := Aside0.mk (Kd.R_below (by (with_reducible repeat (first | apply Kd.R_alloc | apply Kd.R_drewN | apply Kd.R_drew)); exact HO258.out) hb); have n3_ := Aside0.mk (Kd.S_elder' (by (with_reducible repeat (first | apply Kd.S_alloc | apply Kd.S_drewN | apply Kd.S_drew)); exact HO261.out) (Kd.S_base ho0) hb); have n4_ := Aside0.mk (Kd.S_lower (Kd.S_new' (Kd.S_new' (Kd.S_new' (Kd.S_new' ho0 (Kd.S_lt (by (with_reducible repeat (first | apply Kd.S_alloc | apply Kd.S_drewN | apply Kd.S_drew)); exact HO251.out))) (Kd.S_lt (by (with_reducible repeat (first | apply Kd.S_alloc | apply Kd.S_drewN | apply Kd.S_drew)); exact HO254.out))) (Kd.R_lt (by (with_reducible repeat (first | apply Kd.R_alloc | apply Kd.R_drewN | apply Kd.R_drew)); exact HO258.out))) (Kd.S_lt (by (with_reducible repeat (first | apply Kd.S_alloc | apply Kd.S_drewN | apply Kd.S_drew)); exact HO261.out))) (below_size (by repeat (first | (with_reducible first | exact HB.out | apply below_alloc | apply pw_below_drewN | apply below_drew1) | exact HB.out)))); have n5_ := Aside0.mk (below_step (by repeat (first | (with_reducible first | exact HB.out | apply below_alloc | apply pw_below_drewN | apply below_drew1) | exact HB.out)) hb); clear HO251; clear HO254; clear HO258; clear HO261; clear HB; have HO251 := n0_; have HO254 := n1_; have HO258 := n2_; have HO261 := n3_; have HO264 := n4_; have HB := n5_; clear n0_ n1_ n2_ n3_ n4_ n5_; (try clear hb); (try clear hb2); (try clear hk); (try clear hi); (try clear ho0); obtain ⟨Ao47, co47, eo47⟩ := Kd.S_slice HO261.out; subst eo47; obtain ⟨Ao48, co48, eo48⟩ := Kd.S_slice HO264.out; subst eo48) | ((with_reducible refine gate_callee (f := 24) rfl ?_); refine goesL_ (some 47) rfl rfl Try.func24 (by kernel_rfl) rfl #[.slice Ao47 t259.length co47, .slice Ao48 t262.length co48] rfl (by (try simp only [List.map_toArray, List.map_cons, List.map_nil]); first | done | rfl | (simp only [List.length_drop, List.length_take]; rfl)) ?_; (with_reducible refine (block_Same.calls _ _ t259 _ _ t262 t265 _ ?side1 ?side2 ?side3 ?side4 A20.out).mono ?_); (case side1 => repeat (first | exact (Kd.S_reads' HO261.out).2.2 | (with_reducible refine Kd.C_alloc ?_ _) | (with_reducible refine Kd.C_drewN ?_ _) | (with_reducible refine Kd.C_drew ?_))); (case side2 => exact (Kd.S_reads' HO261.out).2.1); (case side3 => repeat (first | exact (Kd.S_reads' HO264.out).2.2 | (with_reducible refine Kd.C_alloc ?_ _) | (with_reducible refine Kd.C_drewN ?_ _) | (with_reducible refine Kd.C_drew ?_))); (case side4 => exact (Kd.S_reads' HO264.out).2.1); rintro e w' ⟨rfl, ⟨nd, rfl⟩⟩; refine ⟨_, rfl, ?_⟩) | (go_at_call 21; (with_reducible refine (block_Many.calls (a0.size : Int) t268 _ A36.out).mono ?_); rintro e w' ⟨rfl, ⟨nd, rfl⟩⟩) | (go_at_call 21; (with_reducible refine (block_Many.calls ((a0.size : Int) + ((strOfNums y256).size : Int)) t269 _ A37.out).mono ?_); rintro e w' ⟨rfl, ⟨nd, rfl⟩⟩))
                go_ret
                exact ⟨by first | rfl | (simp [errW_none, errW_some] <;> rfl) | (simp [*, errW_none, errW_some] <;> rfl), by repeat (first | (with_reducible first | exact HB.out | apply below_alloc | apply pw_below_drewN | apply below_drew1) | exact HB.out)⟩
            · rw [if_neg c17] at H
              exact absurd H (by simp)
          · rw [if_neg c16] at H
            exact absurd H (by simp)
        · rw [if_neg c15] at H
          exact absurd H (by simp)

/-- THE ONE PURE STATEMENT of reelkeeperlaw03_BlockApart: yours. -/
def reelkeeperlaw03_BlockApart.Pure : Prop := ∀ (a0 : ByteArray) (a1 : ByteArray) (a2 : Int), a0.size ≤ 140737488351232 → a1.size ≤ 140737488351232 → (Lit.int .i64 a2).wf = true → ∃ k, reelkeeperlaw03_BlockApart.f k a0 a1 a2 = some true
theorem reelkeeperlaw03_BlockApart.walk (P : reelkeeperlaw03_BlockApart.Pure) (a0 : ByteArray) (a1 : ByteArray) (a2 : Int) (w : World) (w0 : a0.size ≤ 140737488351232) (w1 : a1.size ≤ 140737488351232) (w2 : (Lit.int .i64 a2).wf = true) :
    Calls Try.prog 9 #[.string a0, .string a1, .int .i64 a2] w fun e w' => e = .returned (.bool true) ∧ Below w.heap.size w w' := by
  obtain ⟨k, h⟩ := P a0 a1 a2 w0 w1 w2
  refine (reelkeeperlaw03_BlockApart.calls k a0 a1 a2 true w h).mono ?_
  rintro e w' ⟨rfl, hd⟩
  exact ⟨rfl, hd⟩

end Go.Proofs.Ytdbnglmcimckmaa.M
