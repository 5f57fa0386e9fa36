/- Part of a claim: what some functions of the program compute, each with its contract; no condition of its own. Written by a program of this workplace (gen.py, over the print of the kit) and by hand. -/
import Derived.Test.YtpbfeegfkiegeaaM0
import Derived.Test.YtpbfeegfkiegeaaM5
import Derived.Test.YtpbfeegfkiegeaaM9
import Derived.Test.YtpbfeegfkiegeaaM14
import Derived.Test.YtpbfeegfkiegeaaM19
import Derived.Test.YtpbfeegfkiegeaaM21
namespace Go.Proofs.Ytpbfeegfkiegeaa.M
open Go.RowKit Go.Proofs.YtpbfeegfkiegeaaW.PrintWords Go.Proofs.YtpbfeegfkiegeaaW.PrintLast Go.Proofs.YtpbfeegfkiegeaaW.PrintMore
attribute [local go_sem] max2_int min2_int max_two min_two max_three min_three max_four min_four   -- for this text's walks alone
set_option linter.unusedVariables false
set_option linter.unusedSimpArgs false

/-! ### reelkeeperlaw13_DriveFills: function 8 -/
mutual
def reelkeeperlaw13_DriveFills.j0 : Nat → Int → Bool → Bool → List (S41) → Int → Int → Option (Bool)
  | 0, _, _, _, _, _, _ => none
  | k + 1, x1, x5, x38, x637000, x637001, x637002 => if x38 = true then (some x5) else (if 0 ≤ x637001 then (if x637001 < (x637000.length : Int) then (reelkeeperlaw13_DriveFills.l0 k x1 (wrap64 (((rd_T41 x637000 x637001).f0) - x637002)) 0 x637000 x637001 x637002 x637000 x637001 x637002) else (none)) else (none))
def reelkeeperlaw13_DriveFills.l0 : Nat → Int → Int → Int → List (S41) → Int → Int → List (S41) → Int → Int → Option (Bool)
  | 0, _, _, _, _, _, _, _, _, _ => none
  | k + 1, x1, x8, x9, x637000, x637001, x637002, x641000, x641001, x641002 => if x9 < x1 then (if 512 ≤ 281474976710656 then ((drive_Write.f x641000 x641001 x641002 (List.replicate 512 0)).bind fun bt646 => (if ((bt646.2.2.2 == 0) != (decide (x9 < x8))) = true then (none) else (if bt646.2.2.2 = 0 then (reelkeeperlaw13_DriveFills.l0 k x1 x8 (wrap64 (x9 + 1)) x637000 x637001 x637002 bt646.1 bt646.2.1 bt646.2.2.1) else (if bt646.2.2.2 = 8 then (reelkeeperlaw13_DriveFills.l0 k x1 x8 (wrap64 (x9 + 1)) x637000 x637001 x637002 bt646.1 bt646.2.1 bt646.2.2.1) else (none))))) else (none)) else ((drive_May.f x641000 x641001 x641002).bind fun t642 => (if t642 = true then (if x641001 = x637001 then (some ((x641000.length : Int) == (x637000.length : Int))) else (none)) else (none)))
end
def reelkeeperlaw13_DriveFills.f (k : Nat) (l0_0 : List (S41)) (a0_1 : Int) (a0_2 : Int) (a1 : Int) : Option (Bool) := (reelkeeperlaw13_awake.f).bind fun t637 => ((reelkeeperlaw13_Few.f k l0_0 a0_1 a0_2).bind fun t638 => (if t637 = true then (if t638 = true then ((drive_May.f l0_0 a0_1 a0_2).bind fun t639 => (if t639 = true then (if a0_1 < 0 then (reelkeeperlaw13_DriveFills.j0 k a1 t637 true l0_0 a0_1 a0_2) else (if a1 < 0 then (reelkeeperlaw13_DriveFills.j0 k a1 t637 true l0_0 a0_1 a0_2) else (reelkeeperlaw13_DriveFills.j0 k a1 t637 (decide (a1 > 40)) l0_0 a0_1 a0_2))) else (reelkeeperlaw13_DriveFills.j0 k a1 t637 true l0_0 a0_1 a0_2))) else (reelkeeperlaw13_DriveFills.j0 k a1 t637 true l0_0 a0_1 a0_2)) else (reelkeeperlaw13_DriveFills.j0 k a1 t637 true l0_0 a0_1 a0_2)))
theorem reelkeeperlaw13_DriveFills.mono_l : ∀ k, (∀ y0 y1 y2 y3 y4 y5, LeO (reelkeeperlaw13_DriveFills.j0 k y0 y1 y2 y3 y4 y5) (reelkeeperlaw13_DriveFills.j0 (k + 1) y0 y1 y2 y3 y4 y5)) ∧ (∀ y0 y1 y2 y3 y4 y5 y6 y7 y8, LeO (reelkeeperlaw13_DriveFills.l0 k y0 y1 y2 y3 y4 y5 y6 y7 y8) (reelkeeperlaw13_DriveFills.l0 (k + 1) y0 y1 y2 y3 y4 y5 y6 y7 y8))
  | 0 => ⟨fun _ _ _ _ _ _ r h => by simp [reelkeeperlaw13_DriveFills.j0] at h, fun _ _ _ _ _ _ _ _ _ r h => by simp [reelkeeperlaw13_DriveFills.l0] at h⟩
  | k + 1 => by
    obtain ⟨ih0, ih1⟩ := reelkeeperlaw13_DriveFills.mono_l k
    refine ⟨?_, ?_⟩
    · intro y0 y1 y2 y3 y4 y5
      unfold reelkeeperlaw13_DriveFills.j0
      repeat' first
      | (with_reducible exact ih0 _ _ _ _ _ _)
      | (with_reducible exact ih1 _ _ _ _ _ _ _ _ _)
      | (with_reducible exact reelkeeperlaw13_Few.mono _ _ _ _)
      | (with_reducible exact LeO.refl _)
      | (with_reducible exact LeO.none _)
      | (with_reducible refine LeO.ite ?_ ?_)
      | (with_reducible refine LeO.bind ?_ (fun _ => ?_))
      | exact ih0 _ _ _ _ _ _
      | exact ih1 _ _ _ _ _ _ _ _ _
      | exact reelkeeperlaw13_Few.mono _ _ _ _
      | exact LeO.none _
      | refine LeO.ite ?_ ?_
      | refine LeO.bind ?_ (fun _ => ?_)
    · intro y0 y1 y2 y3 y4 y5 y6 y7 y8
      unfold reelkeeperlaw13_DriveFills.l0
      repeat' first
      | (with_reducible exact ih0 _ _ _ _ _ _)
      | (with_reducible exact ih1 _ _ _ _ _ _ _ _ _)
      | (with_reducible exact reelkeeperlaw13_Few.mono _ _ _ _)
      | (with_reducible exact LeO.refl _)
      | (with_reducible exact LeO.none _)
      | (with_reducible refine LeO.ite ?_ ?_)
      | (with_reducible refine LeO.bind ?_ (fun _ => ?_))
      | exact ih0 _ _ _ _ _ _
      | exact ih1 _ _ _ _ _ _ _ _ _
      | exact reelkeeperlaw13_Few.mono _ _ _ _
      | exact LeO.none _
      | refine LeO.ite ?_ ?_
      | refine LeO.bind ?_ (fun _ => ?_)
theorem reelkeeperlaw13_DriveFills.mono : ∀ a0 a1 a2 a3 k, LeO (reelkeeperlaw13_DriveFills.f k a0 a1 a2 a3) (reelkeeperlaw13_DriveFills.f (k + 1) a0 a1 a2 a3) := by
  intro a0 a1 a2 a3 k
  obtain ⟨ih0, ih1⟩ := reelkeeperlaw13_DriveFills.mono_l k
  unfold reelkeeperlaw13_DriveFills.f
  repeat' first
      | (with_reducible exact ih0 _ _ _ _ _ _)
      | (with_reducible exact ih1 _ _ _ _ _ _ _ _ _)
      | (with_reducible exact reelkeeperlaw13_Few.mono _ _ _ _)
      | (with_reducible exact LeO.refl _)
      | (with_reducible exact LeO.none _)
      | (with_reducible refine LeO.ite ?_ ?_)
      | (with_reducible refine LeO.bind ?_ (fun _ => ?_))
      | exact ih0 _ _ _ _ _ _
      | exact ih1 _ _ _ _ _ _ _ _ _
      | exact reelkeeperlaw13_Few.mono _ _ _ _
      | exact LeO.none _
      | refine LeO.ite ?_ ?_
      | refine LeO.bind ?_ (fun _ => ?_)
def reelkeeperlaw13_DriveFills.T6 : Bool × List (List Nat × List Nat) := (true, [([], []), ([0], [0]), ([], []), ([2], [2]), ([1, 3], [1, 3]), ([4], [4]), ([5], [5]), ([], []), ([7], [7]), ([6, 8], [6, 8]), ([9, 0, 1, 2, 3, 4, 5, 6, 7, 8, 9], [9])])
def reelkeeperlaw13_DriveFills.B6 : List Nat := [0, 1, 0, 4, 15, 31, 63, 0, 128, 511, 1023]
theorem reelkeeperlaw13_DriveFills.tab6 : rtab .any (opsOf Try.f8 6) = reelkeeperlaw13_DriveFills.T6 := by kernel_rfl
theorem reelkeeperlaw13_DriveFills.bits6 : waitsOk reelkeeperlaw13_DriveFills.T6.2 reelkeeperlaw13_DriveFills.B6 = true := by kernel_rfl
def reelkeeperlaw13_DriveFills.T10 : Bool × List (List Nat × List Nat) := (true, [([], []), ([], []), ([0, 1], [0, 1]), ([2], [2]), ([3], [3]), ([3], [3]), ([], []), ([6, 4, 2, 0, 1, 2, 3, 4, 6], [4, 6]), ([5, 7, 0, 1, 2, 3, 4, 5, 6, 7], [5])])
def reelkeeperlaw13_DriveFills.B10 : List Nat := [0, 0, 3, 7, 15, 15, 0, 95, 255]
theorem reelkeeperlaw13_DriveFills.tab10 : rtab .any (opsOf Try.f8 10) = reelkeeperlaw13_DriveFills.T10 := by kernel_rfl
theorem reelkeeperlaw13_DriveFills.bits10 : waitsOk reelkeeperlaw13_DriveFills.T10.2 reelkeeperlaw13_DriveFills.B10 = true := by kernel_rfl
set_option maxHeartbeats 8000000 in
set_option maxRecDepth 100000 in
theorem reelkeeperlaw13_DriveFills.calls (k : Nat) (P0_0_ : Nat → Prop) (A0_0 : Option Addr) (c0_0 : Nat) (l0_0 : List (S41)) (a0_1 : Int) (a0_2 : Int) (a1 : Int) (r : Bool) (w : World) (hs0_0 : Kd.V k41 41 w w.heap.size (fun k_ => P0_0_ k_) (.slice A0_0 l0_0.length c0_0) l0_0) (h : reelkeeperlaw13_DriveFills.f k l0_0 a0_1 a0_2 a1 = some r) :
  Calls Try.prog 8 #[.agg #[.slice A0_0 l0_0.length c0_0, .int .i64 a0_1, .int .i64 a0_2], .int .i64 a1] w fun e w' => e = .returned (.bool r) ∧ Below w.heap.size w w' := by
 have hu24 := Try.underlying24; have HO0_0 := zA (show Kd.V k41 41 w w.heap.size (fun k_ => (P0_0_ k_ ∨ w.heap.size ≤ k_)) (.slice A0_0 l0_0.length c0_0) l0_0 from Kd.V_mono hs0_0 (fun k_ hk => .inl hk)); have HB := zA (Below.refl w.heap.size w); have H : ((reelkeeperlaw13_awake.f).bind fun t637 => ((reelkeeperlaw13_Few.f k l0_0 a0_1 a0_2).bind fun t638 => (if t637 = true then (if t638 = true then ((drive_May.f l0_0 a0_1 a0_2).bind fun t639 => (if t639 = true then (if a0_1 < 0 then (reelkeeperlaw13_DriveFills.j0 k a1 t637 true l0_0 a0_1 a0_2) else (if a1 < 0 then (reelkeeperlaw13_DriveFills.j0 k a1 t637 true l0_0 a0_1 a0_2) else (reelkeeperlaw13_DriveFills.j0 k a1 t637 (decide (a1 > 40)) l0_0 a0_1 a0_2))) else (reelkeeperlaw13_DriveFills.j0 k a1 t637 true l0_0 a0_1 a0_2))) else (reelkeeperlaw13_DriveFills.j0 k a1 t637 true l0_0 a0_1 a0_2)) else (reelkeeperlaw13_DriveFills.j0 k a1 t637 true l0_0 a0_1 a0_2)))) = some r := h; clear h; replace H := Option.bind_eq_some_iff.mp H; obtain ⟨t637, A30, H⟩ := H; replace H : ((reelkeeperlaw13_Few.f k l0_0 a0_1 a0_2).bind fun t638 => (if t637 = true then (if t638 = true then ((drive_May.f l0_0 a0_1 a0_2).bind fun t639 => (if t639 = true then (if a0_1 < 0 then (reelkeeperlaw13_DriveFills.j0 k a1 t637 true l0_0 a0_1 a0_2) else (if a1 < 0 then (reelkeeperlaw13_DriveFills.j0 k a1 t637 true l0_0 a0_1 a0_2) else (reelkeeperlaw13_DriveFills.j0 k a1 t637 (decide (a1 > 40)) l0_0 a0_1 a0_2))) else (reelkeeperlaw13_DriveFills.j0 k a1 t637 true l0_0 a0_1 a0_2))) else (reelkeeperlaw13_DriveFills.j0 k a1 t637 true l0_0 a0_1 a0_2)) else (reelkeeperlaw13_DriveFills.j0 k a1 t637 true l0_0 a0_1 a0_2))) = some r := H; have A3 := zA A30; clear A30; replace H := Option.bind_eq_some_iff.mp H; obtain ⟨t638, A40, H⟩ := H; replace H : (if t637 = true then (if t638 = true then ((drive_May.f l0_0 a0_1 a0_2).bind fun t639 => (if t639 = true then (if a0_1 < 0 then (reelkeeperlaw13_DriveFills.j0 k a1 t637 true l0_0 a0_1 a0_2) else (if a1 < 0 then (reelkeeperlaw13_DriveFills.j0 k a1 t637 true l0_0 a0_1 a0_2) else (reelkeeperlaw13_DriveFills.j0 k a1 t637 (decide (a1 > 40)) l0_0 a0_1 a0_2))) else (reelkeeperlaw13_DriveFills.j0 k a1 t637 true l0_0 a0_1 a0_2))) else (reelkeeperlaw13_DriveFills.j0 k a1 t637 true l0_0 a0_1 a0_2)) else (reelkeeperlaw13_DriveFills.j0 k a1 t637 true l0_0 a0_1 a0_2)) = some r := H; have A4 := zA A40; clear A40; have HC5 := zA H; clear H
 go_enter Try.func8, Try.ntmps8
 go_upto_region 3 with (first | ((with_reducible refine gate_dst (N := 2) rfl ?_); (try (refine gate_guard (by rfl) ?_; dsimp only)); refine box_event ?hg (N := 2) ?hd (cs := #[.slice A0_0 l0_0.length c0_0, .int .i64 a0_1, .int .i64 a0_2]) (t := 24) ?hr ?_; (case hd => rfl); (case hg => rfl); (case hr => first | (go_simp; done) | (go_simp; rfl)); intro gb636 hg w6 hbox hb; have n0_ := zA (Kd.V_below (Kd.V_elderB HO0_0.out gb636 (Nat.le_of_eq hg.symm)) hb); have n1_ := zA (below_step (by repeat (first | (with_reducible first | exact HB.out | apply bL | apply bP | apply bD) | exact HB.out)) hb); have n2_ := zA (hbox); have n3_ := zA ((by rw [hg]; exact (below_size (by repeat (first | (with_reducible first | exact HB.out | apply bL | apply bP | apply bD) | exact HB.out))) : w.heap.size ≤ gb636)); have n4_ := zA ((by rw [hg]; exact (below_size (by repeat (first | (with_reducible first | exact HB.out | apply bL | apply bP | apply bD) | exact HB.out))) : w.heap.size ≤ gb636)); clear HO0_0; clear HB; have HO0_0 := n0_; have HB := n1_; have BK636 := n2_; have GW636 := n3_; have GE636 := n4_; clear n0_ n1_ n2_ n3_ n4_; clear hb hbox hg) | ((with_reducible refine gate_callee (f := 9) rfl ?_); refine goesL_ (some 12) rfl rfl Try.func9 (by kernel_rfl) rfl #[] rfl (by (try simp only [List.map_toArray, List.map_cons, List.map_nil]); first | done | rfl | (simp only [List.length_drop, List.length_take]; rfl)) ?_; (with_reducible refine (reelkeeperlaw13_awake.calls  t637 _ A3.out).mono ?_); rintro e w7 ⟨rfl, hb⟩; refine ⟨_, rfl, ?_⟩; have n0_ := zA (Kd.V_below HO0_0.out hb); have n1_ := zA (bK BK636.out hb); have n2_ := zA (below_step (by repeat (first | (with_reducible first | exact HB.out | apply bL | apply bP | apply bD | refine bS ?_ GE636.out) | exact HB.out)) hb); clear HO0_0; clear BK636; clear HB; have HO0_0 := n0_; have BK636 := n1_; have HB := n2_; clear n0_ n1_ n2_; (try clear hb); (try clear hb2); (try clear hk); (try clear hi); have hcz8_0 : w7.cell? ⟨gb636, 0, none⟩ = some (.slice A0_0 l0_0.length c0_0) := (blk_cell BK636.out 0).trans rfl; have hcz8_1 : w7.cell? ⟨gb636, 1, none⟩ = some (.int .i64 a0_1) := (blk_cell BK636.out 1).trans rfl; have hcz8_2 : w7.cell? ⟨gb636, 2, none⟩ = some (.int .i64 a0_2) := (blk_cell BK636.out 2).trans rfl; have hfz8_0 := blk_frozen BK636.out 0; have hfz8_1 := blk_frozen BK636.out 1; have hfz8_2 := blk_frozen BK636.out 2) | ((with_reducible refine gate_callee (f := 10) rfl ?_); refine goesL_ (some 14) rfl rfl Try.func10 (by kernel_rfl) rfl #[.agg #[.slice A0_0 l0_0.length c0_0, .int .i64 a0_1, .int .i64 a0_2]] rfl (by (try simp only [List.map_toArray, List.map_cons, List.map_nil]); first | done | rfl | (simp only [List.length_drop, List.length_take]; rfl)) ?_; (with_reducible refine (reelkeeperlaw13_Few.calls k _ _ l0_0 a0_1 a0_2 t638 _ ?side1 ?side2 A4.out).mono ?_); (case side1 => repeat (first | exact (Kd.V_reads' HO0_0.out).2.2 | (with_reducible refine Kd.C_alloc ?_ _) | (with_reducible refine Kd.C_drewN ?_ _) | (with_reducible refine Kd.C_drew ?_))); (case side2 => exact (Kd.V_reads' HO0_0.out).2.1); rintro e w9 ⟨rfl, hb⟩; refine ⟨_, rfl, ?_⟩; have n0_ := zA (Kd.V_below HO0_0.out hb); have n1_ := zA (bK BK636.out hb); have n2_ := zA (below_step (by repeat (first | (with_reducible first | exact HB.out | apply bL | apply bP | apply bD | refine bS ?_ GE636.out) | exact HB.out)) hb); clear HO0_0; clear BK636; clear HB; have HO0_0 := n0_; have BK636 := n1_; have HB := n2_; clear n0_ n1_ n2_; (try clear hb); (try clear hb2); (try clear hk); (try clear hi)))
 (try simp only [Act.put, List.setIfInBounds_toArray, List.set_cons_zero, List.set_cons_succ])
 go_cut [38] (fun v38 wc => ∃ (kq : Nat) (x38_4 : Bool), v38 = .bool x38_4 ∧ Aside0 (reelkeeperlaw13_DriveFills.j0 kq a1 t637 x38_4 l0_0 a0_1 a0_2 = some r) ∧ Aside0 (kq ≤ k) ∧ Aside0 (Kd.V k41 41 wc w.heap.size (fun k_ => (P0_0_ k_ ∨ w.heap.size ≤ k_) ∧ k_ ≠ gb636) (.slice A0_0 l0_0.length c0_0) l0_0) ∧ Aside0 (wc.heap[gb636]? = some (.cells #[(.slice A0_0 l0_0.length c0_0), .int .i64 a0_1, .int .i64 a0_2] 24 (0, 0))) ∧ Aside0 (Below w.heap.size w wc))
 case first =>
  have H := HC5.out; clear HC5
  by_cases c10 : t637 = true
  ·subst c10
   have H1 : (if t638 = true then ((drive_May.f l0_0 a0_1 a0_2).bind fun t639 => (if t639 = true then (if a0_1 < 0 then (reelkeeperlaw13_DriveFills.j0 k a1 true true l0_0 a0_1 a0_2) else (if a1 < 0 then (reelkeeperlaw13_DriveFills.j0 k a1 true true l0_0 a0_1 a0_2) else (reelkeeperlaw13_DriveFills.j0 k a1 true (decide (a1 > 40)) l0_0 a0_1 a0_2))) else (reelkeeperlaw13_DriveFills.j0 k a1 true true l0_0 a0_1 a0_2))) else (reelkeeperlaw13_DriveFills.j0 k a1 true true l0_0 a0_1 a0_2)) = some r := by rw [if_pos rfl] at H; exact H
   clear H; have H := H1; clear H1
   by_cases c11 : t638 = true
   ·subst c11
    have H1 : ((drive_May.f l0_0 a0_1 a0_2).bind fun t639 => (if t639 = true then (if a0_1 < 0 then (reelkeeperlaw13_DriveFills.j0 k a1 true true l0_0 a0_1 a0_2) else (if a1 < 0 then (reelkeeperlaw13_DriveFills.j0 k a1 true true l0_0 a0_1 a0_2) else (reelkeeperlaw13_DriveFills.j0 k a1 true (decide (a1 > 40)) l0_0 a0_1 a0_2))) else (reelkeeperlaw13_DriveFills.j0 k a1 true true l0_0 a0_1 a0_2))) = some r := by rw [if_pos rfl] at H; exact H
    clear H; have H := H1; clear H1; replace H := Option.bind_eq_some_iff.mp H; obtain ⟨t639, A120, H⟩ := H; replace H : (if t639 = true then (if a0_1 < 0 then (reelkeeperlaw13_DriveFills.j0 k a1 true true l0_0 a0_1 a0_2) else (if a1 < 0 then (reelkeeperlaw13_DriveFills.j0 k a1 true true l0_0 a0_1 a0_2) else (reelkeeperlaw13_DriveFills.j0 k a1 true (decide (a1 > 40)) l0_0 a0_1 a0_2))) else (reelkeeperlaw13_DriveFills.j0 k a1 true true l0_0 a0_1 a0_2)) = some r := H; have A12 := zA A120; clear A120
    by_cases c13 : t639 = true
    ·subst c13
     have H1 : (if a0_1 < 0 then (reelkeeperlaw13_DriveFills.j0 k a1 true true l0_0 a0_1 a0_2) else (if a1 < 0 then (reelkeeperlaw13_DriveFills.j0 k a1 true true l0_0 a0_1 a0_2) else (reelkeeperlaw13_DriveFills.j0 k a1 true (decide (a1 > 40)) l0_0 a0_1 a0_2))) = some r := by rw [if_pos rfl] at H; exact H
     clear H; have H := H1; clear H1
     by_cases c14 : a0_1 < 0
     ·rw [if_pos c14] at H
      have c14b0 : decide (a0_1 < 0) = true := decide_eq_true c14; clear c14
      (first | rw [c14b0] | (simp only [i64_w, i32_w]; rw [c14b0]) | skip)
      have H' := zA H; clear H; have hcz15_0 : w9.cell? ⟨gb636, 0, none⟩ = some (.slice A0_0 l0_0.length c0_0) := (blk_cell BK636.out 0).trans rfl; have hcz15_1 : w9.cell? ⟨gb636, 1, none⟩ = some (.int .i64 a0_1) := (blk_cell BK636.out 1).trans rfl; have hcz15_2 : w9.cell? ⟨gb636, 2, none⟩ = some (.int .i64 a0_2) := (blk_cell BK636.out 2).trans rfl; have hfz15_0 := blk_frozen BK636.out 0; have hfz15_1 := blk_frozen BK636.out 1; have hfz15_2 := blk_frozen BK636.out 2
      go_wp2_with (first | (go_at_call 27; (with_reducible refine (drive_May.calls _ _ l0_0 a0_1 a0_2 true _ ?side1 ?side2 A12.out).mono ?_); (case side1 => repeat (first | exact (Kd.V_reads' HO0_0.out).2.2 | (with_reducible refine Kd.C_alloc ?_ _) | (with_reducible refine Kd.C_drewN ?_ _) | (with_reducible refine Kd.C_drew ?_))); (case side2 => exact (Kd.V_reads' HO0_0.out).2.1); rintro e w16 ⟨rfl, hb⟩; have n0_ := zA (Kd.V_below HO0_0.out hb); have n1_ := zA (bK BK636.out hb); have n2_ := zA (below_step (by repeat (first | (with_reducible first | exact HB.out | apply bL | apply bP | apply bD | refine bS ?_ GE636.out) | exact HB.out)) hb); clear HO0_0; clear BK636; clear HB; have HO0_0 := n0_; have BK636 := n1_; have HB := n2_; clear n0_ n1_ n2_; (try clear hb); (try clear hb2); (try clear hk); (try clear hi); have hcz17_0 : w16.cell? ⟨gb636, 0, none⟩ = some (.slice A0_0 l0_0.length c0_0) := (blk_cell BK636.out 0).trans rfl; have hcz17_1 : w16.cell? ⟨gb636, 1, none⟩ = some (.int .i64 a0_1) := (blk_cell BK636.out 1).trans rfl; have hcz17_2 : w16.cell? ⟨gb636, 2, none⟩ = some (.int .i64 a0_2) := (blk_cell BK636.out 2).trans rfl; have hfz17_0 := blk_frozen BK636.out 0; have hfz17_1 := blk_frozen BK636.out 1; have hfz17_2 := blk_frozen BK636.out 2))
      go_meet
      case rel => exact ⟨_, (true), (by first | rfl | (simp; done) | (simp [*]; done)), H', ⟨by first | omega | exact Nat.le_refl _⟩, ⟨by exact HO0_0.out⟩, ⟨by exact BK636.out⟩, ⟨by repeat (first | (with_reducible first | exact HB.out | apply bL | apply bP | apply bD | refine bS ?_ GE636.out) | exact HB.out)⟩⟩
     ·rw [if_neg c14] at H
      have c14b0 : decide (a0_1 < 0) = false := decide_eq_false c14; clear c14
      (first | rw [c14b0] | (simp only [i64_w, i32_w]; rw [c14b0]) | skip)
      by_cases c18 : a1 < 0
      ·rw [if_pos c18] at H
       have c18b0 : decide (a1 < 0) = true := decide_eq_true c18; clear c18; have H' := zA H; clear H; have hcz19_0 : w9.cell? ⟨gb636, 0, none⟩ = some (.slice A0_0 l0_0.length c0_0) := (blk_cell BK636.out 0).trans rfl; have hcz19_1 : w9.cell? ⟨gb636, 1, none⟩ = some (.int .i64 a0_1) := (blk_cell BK636.out 1).trans rfl; have hcz19_2 : w9.cell? ⟨gb636, 2, none⟩ = some (.int .i64 a0_2) := (blk_cell BK636.out 2).trans rfl; have hfz19_0 := blk_frozen BK636.out 0; have hfz19_1 := blk_frozen BK636.out 1; have hfz19_2 := blk_frozen BK636.out 2
       go_wp2_with (first | (go_at_call 27; (with_reducible refine (drive_May.calls _ _ l0_0 a0_1 a0_2 true _ ?side1 ?side2 A12.out).mono ?_); (case side1 => repeat (first | exact (Kd.V_reads' HO0_0.out).2.2 | (with_reducible refine Kd.C_alloc ?_ _) | (with_reducible refine Kd.C_drewN ?_ _) | (with_reducible refine Kd.C_drew ?_))); (case side2 => exact (Kd.V_reads' HO0_0.out).2.1); rintro e w20 ⟨rfl, hb⟩; have n0_ := zA (Kd.V_below HO0_0.out hb); have n1_ := zA (bK BK636.out hb); have n2_ := zA (below_step (by repeat (first | (with_reducible first | exact HB.out | apply bL | apply bP | apply bD | refine bS ?_ GE636.out) | exact HB.out)) hb); clear HO0_0; clear BK636; clear HB; have HO0_0 := n0_; have BK636 := n1_; have HB := n2_; clear n0_ n1_ n2_; (try clear hb); (try clear hb2); (try clear hk); (try clear hi); have hcz21_0 : w20.cell? ⟨gb636, 0, none⟩ = some (.slice A0_0 l0_0.length c0_0) := (blk_cell BK636.out 0).trans rfl; have hcz21_1 : w20.cell? ⟨gb636, 1, none⟩ = some (.int .i64 a0_1) := (blk_cell BK636.out 1).trans rfl; have hcz21_2 : w20.cell? ⟨gb636, 2, none⟩ = some (.int .i64 a0_2) := (blk_cell BK636.out 2).trans rfl; have hfz21_0 := blk_frozen BK636.out 0; have hfz21_1 := blk_frozen BK636.out 1; have hfz21_2 := blk_frozen BK636.out 2))
       go_meet
       case rel => exact ⟨_, (true), (by first | rfl | (simp; done) | (simp [*]; done)), H', ⟨by first | omega | exact Nat.le_refl _⟩, ⟨by exact HO0_0.out⟩, ⟨by exact BK636.out⟩, ⟨by repeat (first | (with_reducible first | exact HB.out | apply bL | apply bP | apply bD | refine bS ?_ GE636.out) | exact HB.out)⟩⟩
      ·rw [if_neg c18] at H
       have c18b0 : decide (a1 < 0) = false := decide_eq_false c18; clear c18; have H' := zA H; clear H; have hcz22_0 : w9.cell? ⟨gb636, 0, none⟩ = some (.slice A0_0 l0_0.length c0_0) := (blk_cell BK636.out 0).trans rfl; have hcz22_1 : w9.cell? ⟨gb636, 1, none⟩ = some (.int .i64 a0_1) := (blk_cell BK636.out 1).trans rfl; have hcz22_2 : w9.cell? ⟨gb636, 2, none⟩ = some (.int .i64 a0_2) := (blk_cell BK636.out 2).trans rfl; have hfz22_0 := blk_frozen BK636.out 0; have hfz22_1 := blk_frozen BK636.out 1; have hfz22_2 := blk_frozen BK636.out 2
       go_wp2_with (first | (go_at_call 27; (with_reducible refine (drive_May.calls _ _ l0_0 a0_1 a0_2 true _ ?side1 ?side2 A12.out).mono ?_); (case side1 => repeat (first | exact (Kd.V_reads' HO0_0.out).2.2 | (with_reducible refine Kd.C_alloc ?_ _) | (with_reducible refine Kd.C_drewN ?_ _) | (with_reducible refine Kd.C_drew ?_))); (case side2 => exact (Kd.V_reads' HO0_0.out).2.1); rintro e w23 ⟨rfl, hb⟩; have n0_ := zA (Kd.V_below HO0_0.out hb); have n1_ := zA (bK BK636.out hb); have n2_ := zA (below_step (by repeat (first | (with_reducible first | exact HB.out | apply bL | apply bP | apply bD | refine bS ?_ GE636.out) | exact HB.out)) hb); clear HO0_0; clear BK636; clear HB; have HO0_0 := n0_; have BK636 := n1_; have HB := n2_; clear n0_ n1_ n2_; (try clear hb); (try clear hb2); (try clear hk); (try clear hi); have hcz24_0 : w23.cell? ⟨gb636, 0, none⟩ = some (.slice A0_0 l0_0.length c0_0) := (blk_cell BK636.out 0).trans rfl; have hcz24_1 : w23.cell? ⟨gb636, 1, none⟩ = some (.int .i64 a0_1) := (blk_cell BK636.out 1).trans rfl; have hcz24_2 : w23.cell? ⟨gb636, 2, none⟩ = some (.int .i64 a0_2) := (blk_cell BK636.out 2).trans rfl; have hfz24_0 := blk_frozen BK636.out 0; have hfz24_1 := blk_frozen BK636.out 1; have hfz24_2 := blk_frozen BK636.out 2))
       go_meet
       case rel => exact ⟨_, (decide (a1 > 40)), (by first | rfl | (simp; done) | (simp [*]; done)), H', ⟨by first | omega | exact Nat.le_refl _⟩, ⟨by exact HO0_0.out⟩, ⟨by exact BK636.out⟩, ⟨by repeat (first | (with_reducible first | exact HB.out | apply bL | apply bP | apply bD | refine bS ?_ GE636.out) | exact HB.out)⟩⟩
    ·replace c13 := Bool.eq_false_iff.mpr c13
     subst c13
     have H1 : (reelkeeperlaw13_DriveFills.j0 k a1 true true l0_0 a0_1 a0_2) = some r := by rw [if_neg (show ¬ (false = true) by decide)] at H; exact H
     clear H; have H := H1; clear H1; have H' := zA H; clear H; have hcz25_0 : w9.cell? ⟨gb636, 0, none⟩ = some (.slice A0_0 l0_0.length c0_0) := (blk_cell BK636.out 0).trans rfl; have hcz25_1 : w9.cell? ⟨gb636, 1, none⟩ = some (.int .i64 a0_1) := (blk_cell BK636.out 1).trans rfl; have hcz25_2 : w9.cell? ⟨gb636, 2, none⟩ = some (.int .i64 a0_2) := (blk_cell BK636.out 2).trans rfl; have hfz25_0 := blk_frozen BK636.out 0; have hfz25_1 := blk_frozen BK636.out 1; have hfz25_2 := blk_frozen BK636.out 2
     go_wp2_with (first | (go_at_call 27; (with_reducible refine (drive_May.calls _ _ l0_0 a0_1 a0_2 false _ ?side1 ?side2 A12.out).mono ?_); (case side1 => repeat (first | exact (Kd.V_reads' HO0_0.out).2.2 | (with_reducible refine Kd.C_alloc ?_ _) | (with_reducible refine Kd.C_drewN ?_ _) | (with_reducible refine Kd.C_drew ?_))); (case side2 => exact (Kd.V_reads' HO0_0.out).2.1); rintro e w26 ⟨rfl, hb⟩; have n0_ := zA (Kd.V_below HO0_0.out hb); have n1_ := zA (bK BK636.out hb); have n2_ := zA (below_step (by repeat (first | (with_reducible first | exact HB.out | apply bL | apply bP | apply bD | refine bS ?_ GE636.out) | exact HB.out)) hb); clear HO0_0; clear BK636; clear HB; have HO0_0 := n0_; have BK636 := n1_; have HB := n2_; clear n0_ n1_ n2_; (try clear hb); (try clear hb2); (try clear hk); (try clear hi)))
     go_meet
     case rel => exact ⟨_, (true), (by first | rfl | (simp; done) | (simp [*]; done)), H', ⟨by first | omega | exact Nat.le_refl _⟩, ⟨by exact HO0_0.out⟩, ⟨by exact BK636.out⟩, ⟨by repeat (first | (with_reducible first | exact HB.out | apply bL | apply bP | apply bD | refine bS ?_ GE636.out) | exact HB.out)⟩⟩
   ·replace c11 := Bool.eq_false_iff.mpr c11
    subst c11
    have H1 : (reelkeeperlaw13_DriveFills.j0 k a1 true true l0_0 a0_1 a0_2) = some r := by rw [if_neg (show ¬ (false = true) by decide)] at H; exact H
    clear H; have H := H1; clear H1; have H' := zA H; clear H
    go_wp2
    go_meet
    case rel => exact ⟨_, (true), (by first | rfl | (simp; done) | (simp [*]; done)), H', ⟨by first | omega | exact Nat.le_refl _⟩, ⟨by exact HO0_0.out⟩, ⟨by exact BK636.out⟩, ⟨by repeat (first | (with_reducible first | exact HB.out | apply bL | apply bP | apply bD | refine bS ?_ GE636.out) | exact HB.out)⟩⟩
  ·replace c10 := Bool.eq_false_iff.mpr c10
   subst c10
   have H1 : (reelkeeperlaw13_DriveFills.j0 k a1 false true l0_0 a0_1 a0_2) = some r := by rw [if_neg (show ¬ (false = true) by decide)] at H; exact H
   clear H; have H := H1; clear H1; have H' := zA H; clear H
   go_wp2
   go_meet
   case rel => exact ⟨_, (true), (by first | rfl | (simp; done) | (simp [*]; done)), H', ⟨by first | omega | exact Nat.le_refl _⟩, ⟨by exact HO0_0.out⟩, ⟨by exact BK636.out⟩, ⟨by repeat (first | (with_reducible first | exact HB.out | apply bL | apply bP | apply bD | refine bS ?_ GE636.out) | exact HB.out)⟩⟩
 case rest =>
  clear HC5
  try clear c1
  try clear p2
  try clear c8
  try clear c9
  try clear c10
  try clear c11
  try clear c13
  try clear c14
  try clear c14b0
  try clear c18
  try clear c18b0
  try clear hcz15_0
  try clear hcz15_1
  try clear hcz15_2
  try clear hcz17_0
  try clear hcz17_1
  try clear hcz17_2
  try clear hcz19_0
  try clear hcz19_1
  try clear hcz19_2
  try clear hcz21_0
  try clear hcz21_1
  try clear hcz21_2
  try clear hcz22_0
  try clear hcz22_1
  try clear hcz22_2
  try clear hcz24_0
  try clear hcz24_1
  try clear hcz24_2
  try clear hcz25_0
  try clear hcz25_1
  try clear hcz25_2
  try clear hcz8_0
  try clear hcz8_1
  try clear hcz8_2
  try clear hfz15_0
  try clear hfz15_1
  try clear hfz15_2
  try clear hfz17_0
  try clear hfz17_1
  try clear hfz17_2
  try clear hfz19_0
  try clear hfz19_1
  try clear hfz19_2
  try clear hfz21_0
  try clear hfz21_1
  try clear hfz21_2
  try clear hfz22_0
  try clear hfz22_1
  try clear hfz22_2
  try clear hfz24_0
  try clear hfz24_1
  try clear hfz24_2
  try clear hfz25_0
  try clear hfz25_1
  try clear hfz25_2
  try clear hfz8_0
  try clear hfz8_1
  try clear hfz8_2
  obtain ⟨kq, x38_4, rfl, HA, HJ4, HO_637000, BK636, HB⟩ := hcut
  cases kq with
  | zero => exact absurd HA.out (by simp [reelkeeperlaw13_DriveFills.j0])
  | succ kj4 =>
   have H := HA.out; clear HA
   simp only [reelkeeperlaw13_DriveFills.j0] at H
   by_cases c27 : x38_4 = true
   ·subst c27
    have H1 : (some t637) = some r := by rw [if_pos rfl] at H; exact H
    clear H; have H := H1; clear H1; obtain rfl := Option.some.inj H
    go_wp2
    go_ret
    exact ⟨by first | rfl | (simp [errW_none, errW_some] <;> rfl) | (simp [*, errW_none, errW_some] <;> rfl), by repeat (first | (with_reducible first | exact HB.out | apply bL | apply bP | apply bD | refine bS ?_ GE636.out) | exact HB.out)⟩
   ·replace c27 := Bool.eq_false_iff.mpr c27
    subst c27
    have H1 : (if 0 ≤ a0_1 then (if a0_1 < (l0_0.length : Int) then (reelkeeperlaw13_DriveFills.l0 kj4 a1 (wrap64 (((rd_T41 l0_0 a0_1).f0) - a0_2)) 0 l0_0 a0_1 a0_2 l0_0 a0_1 a0_2) else (none)) else (none)) = some r := by rw [if_neg (show ¬ (false = true) by decide)] at H; exact H
    clear H; have H := H1; clear H1
    by_cases c28 : 0 ≤ a0_1
    ·rw [if_pos c28] at H
     have c28b0 : decide (0 ≤ a0_1) = true := decide_eq_true c28; clear c28
     by_cases c29 : a0_1 < (l0_0.length : Int)
     ·rw [if_pos c29] at H
      have c29b0 : decide (a0_1 < (l0_0.length : Int)) = true := decide_eq_true c29; clear c29; have H' := zA H; clear H; have hcz30_0 : wc.cell? ⟨gb636, 0, none⟩ = some (.slice A0_0 l0_0.length c0_0) := (blk_cell BK636.out 0).trans rfl; have hcz30_1 : wc.cell? ⟨gb636, 1, none⟩ = some (.int .i64 a0_1) := (blk_cell BK636.out 1).trans rfl; have hcz30_2 : wc.cell? ⟨gb636, 2, none⟩ = some (.int .i64 a0_2) := (blk_cell BK636.out 2).trans rfl; have hfz30_0 := blk_frozen BK636.out 0; have hfz30_1 := blk_frozen BK636.out 1; have hfz30_2 := blk_frozen BK636.out 2
      try go_wp2_with (first | ((with_reducible refine gate_dst (N := 7) rfl ?_); (try (refine gate_guard (by rfl) ?_; dsimp only)); refine box_event ?hg (N := 7) ?hd (cs := #[.slice none 0 0, .int .i64 0, .int .i64 0]) (t := 24) ?hr ?_; (case hd => rfl); (case hg => rfl); (case hr => first | (go_simp; done) | (go_simp; rfl)); intro gb640 hg w31 hbox hb; have n0_ := zA (Kd.V_below (Kd.V_elderB HO_637000.out gb640 (Nat.le_of_eq hg.symm)) hb); have n1_ := zA (bK BK636.out hb); have n2_ := zA (below_step (by repeat (first | (with_reducible first | exact HB.out | apply bL | apply bP | apply bD | refine bS ?_ GE636.out) | exact HB.out)) hb); have n3_ := zA (hbox); have n4_ := zA ((by rw [hg]; exact (below_size (by repeat (first | (with_reducible first | exact HB.out | apply bL | apply bP | apply bD | refine bS ?_ GE636.out) | exact HB.out))) : w.heap.size ≤ gb640)); have n5_ := zA ((by rw [hg]; exact (below_size (by repeat (first | (with_reducible first | exact HB.out | apply bL | apply bP | apply bD | refine bS ?_ GE636.out) | exact HB.out))) : w.heap.size ≤ gb640)); have n6_ := zA ((by rw [hg]; exact Nat.ne_of_lt (blk_lt BK636.out) : gb636 ≠ gb640)); have n7_ := zA ((by rw [hg]; exact Nat.ne_of_gt (blk_lt BK636.out) : gb640 ≠ gb636)); clear HO_637000; clear BK636; clear HB; have HO_637000 := n0_; have BK636 := n1_; have HB := n2_; have BK640 := n3_; have GW640 := n4_; have GE640 := n5_; have NB636_640 := n6_; have NB640_636 := n7_; clear n0_ n1_ n2_ n3_ n4_ n5_ n6_ n7_; clear hb hbox hg; have hnb32 := NB640_636.out; have hnc32 := NB636_640.out; have hcz33_0 : w31.cell? ⟨gb640, 0, none⟩ = some (.slice none 0 0) := (blk_cell BK640.out 0).trans rfl; have hcz33_1 : w31.cell? ⟨gb640, 1, none⟩ = some (.int .i64 0) := (blk_cell BK640.out 1).trans rfl; have hcz33_2 : w31.cell? ⟨gb640, 2, none⟩ = some (.int .i64 0) := (blk_cell BK640.out 2).trans rfl; have hfz33_0 := blk_frozen BK640.out 0; have hfz33_1 := blk_frozen BK640.out 1; have hfz33_2 := blk_frozen BK640.out 2))
      have n0_ : Aside0 (Kd.V k41 41 (((w31.setCell ⟨gb640, 0, none⟩ (.slice A0_0 l0_0.length c0_0)).setCell ⟨gb640, 1, none⟩ (.int .i64 a0_1)).setCell ⟨gb640, 2, none⟩ (.int .i64 a0_2)) w.heap.size (fun k_ => (P0_0_ k_ ∨ w.heap.size ≤ k_) ∧ k_ ≠ gb636 ∧ k_ ≠ gb640) (.slice A0_0 l0_0.length c0_0) l0_0) := ⟨by exact Kd.V_mono (Kd.V_far (p := ⟨gb640, 2, none⟩) (Kd.V_far (p := ⟨gb640, 1, none⟩) (Kd.V_far (p := ⟨gb640, 0, none⟩) (Kd.V_mono HO_637000.out (fun k_ hk => (⟨hk, hk.2⟩ : _ ∧ k_ ≠ gb640))) (fun _ hk => hk.2) (.slice A0_0 l0_0.length c0_0)) (fun _ hk => hk.2) (.int .i64 a0_1)) (fun _ hk => hk.2) (.int .i64 a0_2)) (fun _ hk => ⟨hk.1.1.1, ⟨hk.1.1.2, hk.1.2⟩⟩)⟩; have n1_ : Aside0 ((((w31.setCell ⟨gb640, 0, none⟩ (.slice A0_0 l0_0.length c0_0)).setCell ⟨gb640, 1, none⟩ (.int .i64 a0_1)).setCell ⟨gb640, 2, none⟩ (.int .i64 a0_2)).heap[gb636]? = some (.cells #[.slice A0_0 l0_0.length c0_0, .int .i64 a0_1, .int .i64 a0_2] 24 (0, 0))) := ⟨by refine blk_far ?_ NB636_640.out _; refine blk_far ?_ NB636_640.out _; refine blk_far ?_ NB636_640.out _; exact BK636.out⟩; have n2_ : Aside0 ((((w31.setCell ⟨gb640, 0, none⟩ (.slice A0_0 l0_0.length c0_0)).setCell ⟨gb640, 1, none⟩ (.int .i64 a0_1)).setCell ⟨gb640, 2, none⟩ (.int .i64 a0_2)).heap[gb640]? = some (.cells #[.slice A0_0 l0_0.length c0_0, .int .i64 a0_1, .int .i64 a0_2] 24 (0, 0))) := ⟨by refine blk_put (cs := #[.slice A0_0 l0_0.length c0_0, .int .i64 a0_1, .int .i64 0]) ?_ 2 _ rfl; refine blk_put (cs := #[.slice A0_0 l0_0.length c0_0, .int .i64 0, .int .i64 0]) ?_ 1 _ rfl; refine blk_put (cs := #[.slice none 0 0, .int .i64 0, .int .i64 0]) ?_ 0 _ rfl; exact BK640.out⟩; have n3_ : Aside0 (Below w.heap.size w (((w31.setCell ⟨gb640, 0, none⟩ (.slice A0_0 l0_0.length c0_0)).setCell ⟨gb640, 1, none⟩ (.int .i64 a0_1)).setCell ⟨gb640, 2, none⟩ (.int .i64 a0_2))) := ⟨by repeat (first | (with_reducible first | exact HB.out | apply bL | apply bP | apply bD | refine bS ?_ GE636.out | refine bS ?_ GE640.out) | exact HB.out)⟩
      (try clear HO_637000)
      (try clear BK636)
      (try clear BK640)
      (try clear HB)
      generalize (((w31.setCell ⟨gb640, 0, none⟩ (.slice A0_0 l0_0.length c0_0)).setCell ⟨gb640, 1, none⟩ (.int .i64 a0_1)).setCell ⟨gb640, 2, none⟩ (.int .i64 a0_2)) = w34 at n0_ n1_ n2_ n3_ ⊢
      have HO_637000 := n0_; have BK636 := n1_; have BK640 := n2_; have HB := n3_; clear n0_ n1_ n2_ n3_; have n0_ := zA (Kd.V_drew HO_637000.out); have n1_ := zA (bW BK636.out); have n2_ := zA (bW BK640.out); have n3_ := zA (bD HB.out); clear HO_637000; clear BK636; clear BK640; clear HB; have HO_637000 := n0_; have BK636 := n1_; have BK640 := n2_; have HB := n3_; clear n0_ n1_ n2_ n3_; have p641 : 0 ≤ (a0_1 : Int) := of_decide_eq_true (by assumption); have q641 : a0_1 < (l0_0.length : Int) := of_decide_eq_true (by assumption); obtain ⟨ad641, A641_1, c641_1, e641, hx641_0, hx641_1, hx641_2, hl641_1, hi641_1⟩ := at_T41 (Kd.V_reads' HO_637000.out).2.2 a0_1 p641 q641; cases e641; obtain ⟨ce641, hce641, hMe641, hcc641⟩ := Kd.V_get HO_637000.out z41 a0_1 p641 (by first | exact q641 | exact of_decide_eq_true (by assumption) | (have e_ := (Kd.V_reads' HO_637000.out).1; omega)); obtain ⟨ua641_1, uc641_1, rfl, ul641_1, ge641_1⟩ := k41_openF hMe641; have hv641_1 := hcc641 1 _ rfl
      rw [add_field _ _ 1 (by omega)] at hv641_1
      replace hv641_1 := Option.some.inj (hv641_1.symm.trans hx641_1)
      injection hv641_1 with hva_ hvn_ hvc_
      rw [hva_] at ge641_1
      rw [hvc_] at ul641_1
      have HL641_1 := zA (show Kd.V (Kd.slice 5 (Kd.int .u8)) 25 _ w.heap.size _ _ ((rd_T41 l0_0 a0_1).f1) from Kd.V_mk ul641_1 ge641_1); clear hva_ hvn_ hvc_ ge641_1 ul641_1; clear hcc641 hce641; have HR641_1 := zA hi641_1; have HC641_1 := zA hl641_1; clear hi641_1 hl641_1; replace p641 := eq_true p641; replace q641 := eq_true q641; refine start_ (n := 11) (S := fun w' => w'.cell? ⟨gb636, 0, none⟩ = some (.slice (some ad641) l0_0.length c0_0) ∧ w'.cell? ⟨gb636, 1, none⟩ = some (.int .i64 a0_1) ∧ w'.cell? ⟨gb636, 2, none⟩ = some (.int .i64 a0_2) ∧ w'.cell? (ad641.add ((a0_1).toNat * 3)) = some (.int .i64 ((rd_T41 l0_0 a0_1).f0)) ∧ w'.cell? ⟨(ad641.add ((a0_1).toNat * 3)).block, (ad641.add ((a0_1).toNat * 3)).off + 1, none⟩ = some (.slice A641_1 ((rd_T41 l0_0 a0_1).f1).length c641_1) ∧ w'.cell? ⟨(ad641.add ((a0_1).toNat * 3)).block, (ad641.add ((a0_1).toNat * 3)).off + 2, none⟩ = some (.bool ((rd_T41 l0_0 a0_1).f2))) (ds := []) #[false, false, false, false, false, false, false, false, false, false, false] (by kernel_rfl) rfl rfl ⟨(blk_cell BK636.out 0).trans rfl, (blk_cell BK636.out 1).trans rfl, (blk_cell BK636.out 2).trans rfl, hx641_0, hx641_1, hx641_2⟩ (fun hHeld => ?_); refine with_tabW reelkeeperlaw13_DriveFills.tab6 reelkeeperlaw13_DriveFills.bits6 (fun HT_ HW_ => ?_)
      generalize w34.drew = w35 at HO_637000 BK636 BK640 HB HL641_1 HR641_1 hx641_0 hx641_1 hx641_2 hHeld ⊢
      refine pure_ (i := 0) (N := some 41) (v := ?_) (a' := ?_) #[true, false, false, false, false, false, false, false, false, false, false] rfl rfl (any_of HT_.out (by kernel_rfl)) (fun _ _ _ h => h) (Or.inl ⟨by rfl, ?_⟩) ?_ ?_; rotate_left
      ·intro w'
       go_simp
       with_reducible rfl
      rotate_left
      ·simp only [Act.put, List.setIfInBounds_toArray, List.set_cons_zero, List.set_cons_succ, i64_w, i32_w]
       rfl
      refine pure_ (i := 2) (N := some 43) (v := ?_) (a' := ?_) #[true, false, true, false, false, false, false, false, false, false, false] rfl rfl (any_of HT_.out (by kernel_rfl)) (fun _ _ _ h => h) (Or.inl ⟨by rfl, ?_⟩) ?_ ?_; rotate_left
      ·intro w'
       go_simp
       with_reducible rfl
      rotate_left
      ·simp only [Act.put, List.setIfInBounds_toArray, List.set_cons_zero, List.set_cons_succ, i64_w, i32_w]
       rfl
      refine pure_ (i := 7) (N := some 48) (v := ?_) (a' := ?_) #[true, false, true, false, false, false, false, true, false, false, false] rfl rfl (any_of HT_.out (by kernel_rfl)) (fun _ _ _ h => h) (Or.inl ⟨by rfl, ?_⟩) ?_ ?_; rotate_left
      ·intro w'
       go_simp
       with_reducible rfl
      rotate_left
      ·simp only [Act.put, List.setIfInBounds_toArray, List.set_cons_zero, List.set_cons_succ, i64_w, i32_w]
       rfl
      refine take_ (i := 1) (N := some 42) (v := ?_) (a' := ?_) #[true, true, true, false, false, false, false, true, false, false, false] rfl rfl (take_ofW HT_.out HW_.out (by kernel_rfl)) (fun _ _ _ h => h) (Or.inl ⟨by rfl, ?_⟩) hHeld ?_ ?_; rotate_left
      ·rintro w' ⟨s0, s1, s2, s3, s4, s5⟩
       go_simp
       with_reducible rfl
      rotate_left
      ·simp only [Act.put, List.setIfInBounds_toArray, List.set_cons_zero, List.set_cons_succ, i64_w, i32_w]
       rfl
      refine take_ (i := 3) (N := some 44) (v := ?_) (a' := ?_) #[true, true, true, true, false, false, false, true, false, false, false] rfl rfl (take_ofW HT_.out HW_.out (by kernel_rfl)) (fun _ _ _ h => h) (Or.inl ⟨by rfl, ?_⟩) hHeld ?_ ?_; rotate_left
      ·rintro w' ⟨s0, s1, s2, s3, s4, s5⟩
       go_simp
       with_reducible rfl
      rotate_left
      ·simp only [Act.put, List.setIfInBounds_toArray, List.set_cons_zero, List.set_cons_succ, i64_w, i32_w]
       rfl
      refine pure_ (i := 4) (N := some 45) (v := ?_) (a' := ?_) #[true, true, true, true, true, false, false, true, false, false, false] rfl rfl (any_of HT_.out (by kernel_rfl)) (fun _ _ _ h => h) (Or.inl ⟨by rfl, ?_⟩) ?_ ?_; rotate_left
      ·intro w'
       go_simp
       with_reducible rfl
      rotate_left
      ·simp only [Act.put, List.setIfInBounds_toArray, List.set_cons_zero, List.set_cons_succ, i64_w, i32_w]
       rfl
      refine pure_ (i := 5) (N := some 46) (v := ?_) (a' := ?_) #[true, true, true, true, true, true, false, true, false, false, false] rfl rfl (any_of HT_.out (by kernel_rfl)) (fun _ _ _ h => h) (Or.inl ⟨by rfl, ?_⟩) ?_ ?_; rotate_left
      ·intro w'
       go_simp
       with_reducible rfl
      rotate_left
      ·simp only [Act.put, List.setIfInBounds_toArray, List.set_cons_zero, List.set_cons_succ, i64_w, i32_w]
       rfl
      refine take_ (i := 6) (N := some 47) (v := ?_) (a' := ?_) #[true, true, true, true, true, true, true, true, false, false, false] rfl rfl (take_ofW HT_.out HW_.out (by kernel_rfl)) (fun _ _ _ h => h) (Or.inl ⟨by rfl, ?_⟩) hHeld ?_ ?_; rotate_left
      ·rintro w' ⟨s0, s1, s2, s3, s4, s5⟩
       go_simp
       with_reducible rfl
      rotate_left
      ·simp only [Act.put, List.setIfInBounds_toArray, List.set_cons_zero, List.set_cons_succ, i64_w, i32_w]
       rfl
      refine take_ (i := 8) (N := some 49) (v := ?_) (a' := ?_) #[true, true, true, true, true, true, true, true, true, false, false] rfl rfl (take_ofW HT_.out HW_.out (by kernel_rfl)) (fun _ _ _ h => h) (Or.inl ⟨by rfl, ?_⟩) hHeld ?_ ?_; rotate_left
      ·rintro w' ⟨s0, s1, s2, s3, s4, s5⟩
       go_simp
       with_reducible rfl
      rotate_left
      ·simp only [Act.put, List.setIfInBounds_toArray, List.set_cons_zero, List.set_cons_succ, i64_w, i32_w]
       rfl
      refine pure_ (i := 9) (N := some 50) (v := ?_) (a' := ?_) #[true, true, true, true, true, true, true, true, true, true, false] rfl rfl (any_of HT_.out (by kernel_rfl)) (fun _ _ _ h => h) (Or.inl ⟨by rfl, ?_⟩) ?_ ?_; rotate_left
      ·intro w'
       go_simp
       with_reducible rfl
      rotate_left
      ·simp only [Act.put, List.setIfInBounds_toArray, List.set_cons_zero, List.set_cons_succ, i64_w, i32_w]
       rfl
      refine pure_ (i := 10) (N := some 8) (v := ?_) (a' := ?_) #[true, true, true, true, true, true, true, true, true, true, true] rfl rfl (any_of HT_.out (by kernel_rfl)) (fun _ _ _ h => h) (Or.inl ⟨by rfl, ?_⟩) ?_ ?_; rotate_left
      ·intro w'
       go_simp
       with_reducible rfl
      rotate_left
      ·simp only [Act.put, List.setIfInBounds_toArray, List.set_cons_zero, List.set_cons_succ, i64_w, i32_w]
       rfl
      refine done_ (done_of HT_.out (by kernel_rfl)) ?_
      try go_wp2
      go_loopg [9] kj4 (fun kq v9 w' => ∃ (x9_2 : Int) (x641000_2 : List (S41)) (x641001_2 : Int) (x641002_2 : Int) (u641000 : Value), v9 = .int .i64 x9_2 ∧ Aside0 (reelkeeperlaw13_DriveFills.l0 kq a1 (wrap64 (((rd_T41 l0_0 a0_1).f0) - a0_2)) x9_2 l0_0 a0_1 a0_2 x641000_2 x641001_2 x641002_2 = some r) ∧ Aside0 (kq ≤ kj4) ∧ Aside0 (Kd.V k41 41 w' w.heap.size (fun k_ => (P0_0_ k_ ∨ w.heap.size ≤ k_) ∧ k_ ≠ gb636 ∧ k_ ≠ gb640) (.slice (some ad641) l0_0.length c0_0) l0_0) ∧ Aside0 (Kd.V k41 41 w' w.heap.size (fun k_ => (P0_0_ k_ ∨ w.heap.size ≤ k_) ∧ k_ ≠ gb636 ∧ k_ ≠ gb640) u641000 x641000_2) ∧ Aside0 (w'.heap[gb636]? = some (.cells #[(.slice (some ad641) l0_0.length c0_0), .int .i64 a0_1, .int .i64 a0_2] 24 (0, 0))) ∧ Aside0 (w'.heap[gb640]? = some (.cells #[u641000, .int .i64 x641001_2, .int .i64 x641002_2] 24 (0, 0))) ∧ Aside0 (Below w.heap.size w w'))
      case atStart => exact ⟨(0), (l0_0), (a0_1), (a0_2), (.slice (some ad641) l0_0.length c0_0), (by first | rfl | (simp; done) | (simp [*]; done)), H', ⟨Nat.le_refl _⟩, ⟨by exact HO_637000.out⟩, ⟨by exact HO_637000.out⟩, ⟨by exact BK636.out⟩, ⟨by exact BK640.out⟩, ⟨by repeat (first | (with_reducible first | exact HB.out | apply bL | apply bP | apply bD | refine bS ?_ GE636.out | refine bS ?_ GE640.out) | exact HB.out)⟩⟩
      case round =>
       clear H'
       try clear c1
       try clear c2
       try clear p2
       try clear c3
       try clear c6
       try clear p6
       try clear q6
       try clear hx6
       try clear c8
       try clear c9
       try clear c10
       try clear c11
       try clear c13
       try clear c14
       try clear c14b0
       try clear c18
       try clear c18b0
       try clear c27
       try clear c28
       try clear c28b0
       try clear c29
       try clear c29b0
       try clear c32
       try clear hcz15_0
       try clear hcz15_1
       try clear hcz15_2
       try clear hcz17_0
       try clear hcz17_1
       try clear hcz17_2
       try clear hcz19_0
       try clear hcz19_1
       try clear hcz19_2
       try clear hcz21_0
       try clear hcz21_1
       try clear hcz21_2
       try clear hcz22_0
       try clear hcz22_1
       try clear hcz22_2
       try clear hcz24_0
       try clear hcz24_1
       try clear hcz24_2
       try clear hcz25_0
       try clear hcz25_1
       try clear hcz25_2
       try clear hcz30_0
       try clear hcz30_1
       try clear hcz30_2
       try clear hcz33_0
       try clear hcz33_1
       try clear hcz33_2
       try clear hcz8_0
       try clear hcz8_1
       try clear hcz8_2
       try clear hfz15_0
       try clear hfz15_1
       try clear hfz15_2
       try clear hfz17_0
       try clear hfz17_1
       try clear hfz17_2
       try clear hfz19_0
       try clear hfz19_1
       try clear hfz19_2
       try clear hfz21_0
       try clear hfz21_1
       try clear hfz21_2
       try clear hfz22_0
       try clear hfz22_1
       try clear hfz22_2
       try clear hfz24_0
       try clear hfz24_1
       try clear hfz24_2
       try clear hfz25_0
       try clear hfz25_1
       try clear hfz25_2
       try clear hfz30_0
       try clear hfz30_1
       try clear hfz30_2
       try clear hfz33_0
       try clear hfz33_1
       try clear hfz33_2
       try clear hfz8_0
       try clear hfz8_1
       try clear hfz8_2
       try clear hx641_0
       try clear hx641_1
       try clear hx641_2
       try clear p2
       try clear p641
       try clear q641
       obtain ⟨x9_2, x641000_2, x641001_2, x641002_2, u641000, rfl, HA, HK2, HO_637000, HO_641000, BK636, BK640, HB⟩ := hrel
       cases gk with
       | zero => exact absurd HA.out (by simp [reelkeeperlaw13_DriveFills.l0])
       | succ k2 =>
        have H := HA.out; clear HA
        simp only [reelkeeperlaw13_DriveFills.l0] at H
        by_cases c36 : x9_2 < a1
        ·rw [if_pos c36] at H
         have c36b0 : decide (x9_2 < a1) = true := decide_eq_true c36; clear c36
         by_cases c37 : 512 ≤ 281474976710656
         ·rw [if_pos c37] at H
          have c37b0 := eq_true c37; have c37b1 : decide (512 ≤ 281474976710656) = true := decide_eq_true c37; clear c37; obtain ⟨y643, hy643⟩ : ∃ y_ : List Int, y_ = (List.replicate 512 0) := ⟨_, rfl⟩
          replace H : ((drive_Write.f x641000_2 x641001_2 x641002_2 y643).bind fun bt646 => (if ((bt646.2.2.2 == 0) != (decide (x9_2 < (wrap64 (((rd_T41 l0_0 a0_1).f0) - a0_2))))) = true then (none) else (if bt646.2.2.2 = 0 then (reelkeeperlaw13_DriveFills.l0 k2 a1 (wrap64 (((rd_T41 l0_0 a0_1).f0) - a0_2)) (wrap64 (x9_2 + 1)) l0_0 a0_1 a0_2 bt646.1 bt646.2.1 bt646.2.2.1) else (if bt646.2.2.2 = 8 then (reelkeeperlaw13_DriveFills.l0 k2 a1 (wrap64 (((rd_T41 l0_0 a0_1).f0) - a0_2)) (wrap64 (x9_2 + 1)) l0_0 a0_1 a0_2 bt646.1 bt646.2.1 bt646.2.2.1) else (none))))) = some r := by first | (rw [hy643]; with_reducible exact H) | (have H2_ := (Option.bind_some _ _).symm.trans H; rw [hy643]; with_reducible exact H2_) | (have H2_ := (Option.bind_some _ _).symm.trans H; with_reducible exact H2_) | with_reducible exact H | (rw [hy643]; exact H) | exact H
          have Ny643 := zA hy643; clear hy643; replace H := Option.bind_eq_some_iff.mp H; obtain ⟨⟨t646, t649, t650, t651⟩, A380, H⟩ := H; replace H : (if ((t651 == 0) != (decide (x9_2 < (wrap64 (((rd_T41 l0_0 a0_1).f0) - a0_2))))) = true then (none) else (if t651 = 0 then (reelkeeperlaw13_DriveFills.l0 k2 a1 (wrap64 (((rd_T41 l0_0 a0_1).f0) - a0_2)) (wrap64 (x9_2 + 1)) l0_0 a0_1 a0_2 t646 t649 t650) else (if t651 = 8 then (reelkeeperlaw13_DriveFills.l0 k2 a1 (wrap64 (((rd_T41 l0_0 a0_1).f0) - a0_2)) (wrap64 (x9_2 + 1)) l0_0 a0_1 a0_2 t646 t649 t650) else (none)))) = some r := H; have A38 := zA A380; clear A380
          by_cases c39 : ((t651 == 0) != (decide (x9_2 < (wrap64 (((rd_T41 l0_0 a0_1).f0) - a0_2))))) = true
          ·rw [if_pos c39] at H
           exact absurd H (by simp)
          ·rw [if_neg c39] at H
           have c39b0 : ((t651 == 0) != (decide (x9_2 < (wrap64 (((rd_T41 l0_0 a0_1).f0) - a0_2))))) = false := by simpa using c39
           (try (have c39b1 : decide ((t651 == 0) = (decide (x9_2 < (wrap64 (((rd_T41 l0_0 a0_1).f0) - a0_2))))) = true := by simpa using c39))
           (try (have c39b2 : ((t651 == 0) == (decide (x9_2 < (wrap64 (((rd_T41 l0_0 a0_1).f0) - a0_2))))) = true := by simpa using c39))
           clear c39
           by_cases c40 : t651 = 0
           ·rw [if_pos c40] at H
            have c40b0 : (t651 == 0) = true := beq_iff_eq.mpr c40; have c40k0 : (decide (x9_2 < (wrap64 (((rd_T41 l0_0 a0_1).f0) - a0_2)))) = true := (by have h9_ := c39b0; rw [c40b0] at h9_; simpa using h9_); have c40b1 : (t651 != 0) = false := bne_eq_false_iff_eq.mpr c40; clear c40; have H' := zA H; clear H; obtain ⟨Ao41, co41, eo41⟩ := Kd.V_slice HO_641000.out; subst eo41
            try go_wp2
            have n0_ := zA (Kd.V_drew HO_637000.out); have n1_ := zA (Kd.V_drew HO_641000.out); have n2_ := zA (bW BK636.out); have n3_ := zA (bW BK640.out); have n4_ := zA (bD HB.out); clear HO_637000; clear HO_641000; clear BK636; clear BK640; clear HB; have HO_637000 := n0_; have HO_641000 := n1_; have BK636 := n2_; have BK640 := n3_; have HB := n4_; clear n0_ n1_ n2_ n3_ n4_; refine start_ (n := 9) (S := fun w' => w'.cell? ⟨gb640, 0, none⟩ = some (.slice Ao41 x641000_2.length co41) ∧ w'.cell? ⟨gb640, 1, none⟩ = some (.int .i64 x641001_2) ∧ w'.cell? ⟨gb640, 2, none⟩ = some (.int .i64 x641002_2)) (ds := []) #[false, false, false, false, false, false, false, false, false] (by kernel_rfl) rfl rfl ⟨(blk_cell BK640.out 0).trans rfl, (blk_cell BK640.out 1).trans rfl, (blk_cell BK640.out 2).trans rfl⟩ (fun hHeld => ?_); refine with_tabW reelkeeperlaw13_DriveFills.tab10 reelkeeperlaw13_DriveFills.bits10 (fun HT_ HW_ => ?_)
            generalize wr.drew = w42 at HO_637000 HO_641000 BK636 BK640 HB hHeld ⊢
            refine take_ (i := 0) (N := some 57) (v := ?_) (a' := ?_) #[true, false, false, false, false, false, false, false, false] rfl rfl (take_ofW HT_.out HW_.out (by kernel_rfl)) (fun _ _ _ h => h) (Or.inl ⟨by rfl, ?_⟩) hHeld ?_ ?_; rotate_left
            ·rintro w' ⟨s0, s1, s2⟩
             go_simp
             with_reducible rfl
            rotate_left
            ·simp only [Act.put, List.setIfInBounds_toArray, List.set_cons_zero, List.set_cons_succ, i64_w, i32_w]
             rfl
            refine join_ (σ := Value × Value × Nat) 2 #[true, true, true, true, true, true, true, false, false] (fun s_ => [(58, s_.1), (59, .tuple #[.agg #[s_.2.1, .int .i64 t649, .int .i64 t650], .int .i64 t651]), (10, .pointer (some ⟨s_.2.2, 0, none⟩)), (56, .tuple #[.agg #[s_.2.1, .int .i64 t649, .int .i64 t650], .int .i64 t651]), (60, .agg #[s_.2.1, .int .i64 t649, .int .i64 t650]), (61, .int .i64 t651)]) (fun s_ w' => (w'.cell? ⟨gb640, 0, none⟩ = some (.slice Ao41 x641000_2.length co41) ∧ w'.cell? ⟨gb640, 1, none⟩ = some (.int .i64 x641001_2) ∧ w'.cell? ⟨gb640, 2, none⟩ = some (.int .i64 x641002_2)) ∧ (Kd.R (Kd.int .u8) 5 w' w.heap.size (fun k_ => (w.heap.size ≤ k_)) s_.1 y643) ∧ (Kd.V k41 41 w' w.heap.size (fun k_ => (P0_0_ k_ ∨ w.heap.size ≤ k_) ∧ some k_ ≠ (s_.1 : Value).ownBlock ∧ k_ ≠ gb636 ∧ k_ ≠ gb640 ∧ k_ ≠ s_.2.2) s_.2.1 t646) ∧ (Kd.V k41 41 w' w.heap.size (fun k_ => (P0_0_ k_ ∨ w.heap.size ≤ k_) ∧ some k_ ≠ (s_.1 : Value).ownBlock ∧ k_ ≠ gb636 ∧ k_ ≠ gb640 ∧ k_ ≠ s_.2.2) (.slice (some ad641) l0_0.length c0_0) l0_0) ∧ (Kd.V k41 41 w' w.heap.size (fun k_ => (P0_0_ k_ ∨ w.heap.size ≤ k_) ∧ some k_ ≠ (s_.1 : Value).ownBlock ∧ k_ ≠ gb636 ∧ k_ ≠ gb640 ∧ k_ ≠ s_.2.2) (.slice Ao41 x641000_2.length co41) x641000_2) ∧ (w'.heap[gb636]? = some (.cells #[.slice (some ad641) l0_0.length c0_0, .int .i64 a0_1, .int .i64 a0_2] 24 (0, 0))) ∧ (w'.heap[gb640]? = some (.cells #[.slice Ao41 x641000_2.length co41, .int .i64 x641001_2, .int .i64 x641002_2] 24 (0, 0))) ∧ (w'.heap[s_.2.2]? = some (.cells #[.slice none 0 0, .int .i64 0, .int .i64 0] 24 (0, 0))) ∧ (w.heap.size ≤ s_.2.2) ∧ (w.heap.size ≤ s_.2.2) ∧ (gb636 ≠ s_.2.2) ∧ (s_.2.2 ≠ gb636) ∧ (gb640 ≠ s_.2.2) ∧ (s_.2.2 ≠ gb640) ∧ (Below w.heap.size w w')) ?_ ?_; rotate_left
            ·intro hCont
             refine two_ (i := 1) (j := 6) (Ni := some 58) (Nj := some 10) #[true, true, false, false, false, false, false, false, false] #[true, false, false, false, false, false, true, false, false] rfl rfl rfl rfl (two_of HT_.out (by kernel_rfl)) (by decide) (by decide) (fun K hK => ?_) (fun K hK => ?_)
             ·skip
              refine Kd.R_make_step (Kd.int .u8) _ 5 (by rfl) (N := 58) rfl 25 _ _ rfl 512 rfl rfl Try.underlying25 (.int .u8 0) 1 info5 rfl (by decide) (by omega) 0 (ok := fun _ => True) (okp := fun _ => True) rfl (fun _ hk => hk) trivial (by omega) (by omega) (Below.refl _ _) (Nat.le_refl _) ?_; intro v644 w43 ho44 hb hg_ hnew_; clear hg_ hnew_
              (first | rw [← Ny643.out] at ho44 | (simp only [Int.reduceToNat] at ho44; rw [← Ny643.out] at ho44))
              have n0_ := zA (Kd.V_elder' HO_637000.out (Kd.R_base ho44) hb); have n1_ := zA (Kd.V_elder' HO_641000.out (Kd.R_base ho44) hb); have n2_ := zA (Kd.R_lower (Kd.R_newM (M := fun k_ => (w.heap.size ≤ k_)) ho44 (below_size (by repeat (first | (with_reducible first | exact HB.out | apply bL | apply bP | apply bD | refine bS ?_ GE636.out | refine bS ?_ GE640.out) | exact HB.out))) (fun k_ h_ => h_)) (below_size (by repeat (first | (with_reducible first | exact HB.out | apply bL | apply bP | apply bD | refine bS ?_ GE636.out | refine bS ?_ GE640.out) | exact HB.out)))); have n3_ := zA (bK BK636.out hb); have n4_ := zA (bK BK640.out hb); have n5_ := zA (below_step (by repeat (first | (with_reducible first | exact HB.out | apply bL | apply bP | apply bD | refine bS ?_ GE636.out | refine bS ?_ GE640.out) | exact HB.out)) hb); clear HO_637000; clear HO_641000; clear BK636; clear BK640; clear HB; have HO_637000 := n0_; have HO_641000 := n1_; have HO645 := n2_; have BK636 := n3_; have BK640 := n4_; have HB := n5_; clear n0_ n1_ n2_ n3_ n4_ n5_; clear hb ho44; obtain ⟨Ao45, co45, eo45⟩ := Kd.R_slice HO645.out
              (first | subst eo45 | (injection eo45 with f1_ f2_ f3_; have f4_ := f1_.symm; have f5_ := f3_.symm; clear f1_ f2_ f3_; subst f4_; subst f5_))
              refine hK.out _ _ ⟨(blk_cell BK640.out 0).trans rfl, (blk_cell BK640.out 1).trans rfl, (blk_cell BK640.out 2).trans rfl⟩ (fun hHeld => ?_); clear hK K; refine norm_ (a' := ?_) ?_ ?_; rotate_left
              ·show Act.put _ (some 58) _ = _
               simp only [Act.put, List.setIfInBounds_toArray, List.set_cons_zero, List.set_cons_succ, i64_w, i32_w]
               rfl
              refine two_ (i := 2) (j := 6) (Ni := some 59) (Nj := some 10) #[true, true, true, false, false, false, false, false, false] #[true, true, false, false, false, false, true, false, false] rfl rfl rfl rfl (two_of HT_.out (by kernel_rfl)) (by decide) (by decide) (fun K hK => ?_) (fun K hK => ?_)
              ·skip
               refine goes_ Try.func17 (by kernel_rfl) rfl #[.agg #[.slice Ao41 x641000_2.length co41, .int .i64 x641001_2, .int .i64 x641002_2], .slice Ao45 y643.length co45] (by rfl) rfl rfl (by (try simp only [List.map_toArray, List.map_cons, List.map_nil]); first | done | rfl | (simp only [List.length_drop, List.length_take]; rfl)) ?_
               with_reducible refine (drive_Write.calls _ _ x641000_2 x641001_2 x641002_2 _ _ y643 t646 t649 t650 t651 _ ?side1 ?side2 ?side3 ?side4 A38.out).mono ?_
               (case side1 => repeat (first | exact (Kd.V_reads' HO_641000.out).2.2 | (with_reducible refine Kd.C_alloc ?_ _) | (with_reducible refine Kd.C_drewN ?_ _) | (with_reducible refine Kd.C_drew ?_)))
               (case side2 => exact (Kd.V_reads' HO_641000.out).2.1)
               (case side3 => repeat (first | exact (Kd.R_reads' HO645.out).2.2 | (with_reducible refine Kd.C_alloc ?_ _) | (with_reducible refine Kd.C_drewN ?_ _) | (with_reducible refine Kd.C_drew ?_)))
               (case side4 => exact (Kd.R_reads' HO645.out).2.1)
               rintro e w46 ⟨v647, rfl, ho0, hb⟩
               refine ⟨_, rfl, ?_⟩; have n0_ := zA (Kd.V_below HO_637000.out hb); have n1_ := zA (Kd.V_below HO_641000.out hb); have n2_ := zA (Kd.R_below HO645.out hb); have n3_ := zA (Kd.V_lower (Kd.V_mono (ok' := fun k_ => (P0_0_ k_ ∨ w.heap.size ≤ k_) ∧ some k_ ≠ (.slice Ao45 y643.length co45 : Value).ownBlock ∧ k_ ≠ gb636 ∧ k_ ≠ gb640) ho0 (fun k_ hk_ => ⟨(.inr (Nat.le_trans (below_size (by repeat (first | (with_reducible first | exact HB.out | apply bL | apply bP | apply bD | refine bS ?_ GE636.out | refine bS ?_ GE640.out) | exact HB.out))) hk_)), (Kd.fresh' (Kd.R_lt HO645.out) k_ hk_), (Kd.freshB BK636.out k_ hk_), (Kd.freshB BK640.out k_ hk_)⟩)) (below_size (by repeat (first | (with_reducible first | exact HB.out | apply bL | apply bP | apply bD | refine bS ?_ GE636.out | refine bS ?_ GE640.out) | exact HB.out)))); have n4_ := zA (bK BK636.out hb); have n5_ := zA (bK BK640.out hb); have n6_ := zA (below_step (by repeat (first | (with_reducible first | exact HB.out | apply bL | apply bP | apply bD | refine bS ?_ GE636.out | refine bS ?_ GE640.out) | exact HB.out)) hb); clear HO_637000; clear HO_641000; clear HO645; clear BK636; clear BK640; clear HB; have HO_637000 := n0_; have HO_641000 := n1_; have HO645 := n2_; have HO648 := n3_; have BK636 := n4_; have BK640 := n5_; have HB := n6_; clear n0_ n1_ n2_ n3_ n4_ n5_ n6_
               (try clear hb)
               (try clear hb2)
               (try clear hk)
               (try clear hi)
               (try clear ho0)
               refine hK.out _ _ ⟨(blk_cell BK640.out 0).trans rfl, (blk_cell BK640.out 1).trans rfl, (blk_cell BK640.out 2).trans rfl⟩ (fun hHeld => ?_); clear hK K; refine norm_ (a' := ?_) ?_ ?_; rotate_left
               ·show Act.put _ (some 59) _ = _
                simp only [Act.put, List.setIfInBounds_toArray, List.set_cons_zero, List.set_cons_succ, i64_w, i32_w]
                rfl
               refine pure_ (i := 3) (N := some 56) (v := ?_) (a' := ?_) #[true, true, true, true, false, false, false, false, false] rfl rfl (any_of HT_.out (by kernel_rfl)) (fun _ _ _ h => h) (Or.inl ⟨by rfl, ?_⟩) ?_ ?_; rotate_left
               ·intro w'
                go_simp
                with_reducible rfl
               rotate_left
               ·simp only [Act.put, List.setIfInBounds_toArray, List.set_cons_zero, List.set_cons_succ, i64_w, i32_w]
                rfl
               refine pure_ (i := 4) (N := some 60) (v := ?_) (a' := ?_) #[true, true, true, true, true, false, false, false, false] rfl rfl (any_of HT_.out (by kernel_rfl)) (fun _ _ _ h => h) (Or.inl ⟨by rfl, ?_⟩) ?_ ?_; rotate_left
               ·intro w'
                go_simp
                with_reducible rfl
               rotate_left
               ·simp only [Act.put, List.setIfInBounds_toArray, List.set_cons_zero, List.set_cons_succ, i64_w, i32_w]
                rfl
               refine pure_ (i := 5) (N := some 61) (v := ?_) (a' := ?_) #[true, true, true, true, true, true, false, false, false] rfl rfl (any_of HT_.out (by kernel_rfl)) (fun _ _ _ h => h) (Or.inl ⟨by rfl, ?_⟩) ?_ ?_; rotate_left
               ·intro w'
                go_simp
                with_reducible rfl
               rotate_left
               ·simp only [Act.put, List.setIfInBounds_toArray, List.set_cons_zero, List.set_cons_succ, i64_w, i32_w]
                rfl
               refine one_ (i := 6) (N := some 10) #[true, true, true, true, true, true, true, false, false] rfl rfl (one_of HT_.out (by kernel_rfl)) (by decide) (fun K hK => ?_); refine box_step ?hg (N := 10) ?hd (cs := #[.slice none 0 0, .int .i64 0, .int .i64 0]) (t := 24) ?hr ?_; (case hd => rfl); (case hg => rfl); (case hr => first | (go_simp; done) | (go_simp; rfl)); intro gb652 hg w47 hbox hb; have n0_ := zA (Kd.V_below (Kd.V_elderB HO_637000.out gb652 (Nat.le_of_eq hg.symm)) hb); have n1_ := zA (Kd.V_below (Kd.V_elderB HO_641000.out gb652 (Nat.le_of_eq hg.symm)) hb); have n2_ := zA (Kd.R_below HO645.out hb); have n3_ := zA (Kd.V_below (Kd.V_elderB HO648.out gb652 (Nat.le_of_eq hg.symm)) hb); have n4_ := zA (bK BK636.out hb); have n5_ := zA (bK BK640.out hb); have n6_ := zA (below_step (by repeat (first | (with_reducible first | exact HB.out | apply bL | apply bP | apply bD | refine bS ?_ GE636.out | refine bS ?_ GE640.out) | exact HB.out)) hb); have n7_ := zA (hbox); have n8_ := zA ((by rw [hg]; exact (below_size (by repeat (first | (with_reducible first | exact HB.out | apply bL | apply bP | apply bD | refine bS ?_ GE636.out | refine bS ?_ GE640.out) | exact HB.out))) : w.heap.size ≤ gb652)); have n9_ := zA ((by rw [hg]; exact (below_size (by repeat (first | (with_reducible first | exact HB.out | apply bL | apply bP | apply bD | refine bS ?_ GE636.out | refine bS ?_ GE640.out) | exact HB.out))) : w.heap.size ≤ gb652)); have n10_ := zA ((by rw [hg]; exact Nat.ne_of_lt (blk_lt BK636.out) : gb636 ≠ gb652)); have n11_ := zA ((by rw [hg]; exact Nat.ne_of_gt (blk_lt BK636.out) : gb652 ≠ gb636)); have n12_ := zA ((by rw [hg]; exact Nat.ne_of_lt (blk_lt BK640.out) : gb640 ≠ gb652))
               have n13_ := zA ((by rw [hg]; exact Nat.ne_of_gt (blk_lt BK640.out) : gb652 ≠ gb640)); clear HO_637000; clear HO_641000; clear HO645; clear HO648; clear BK636; clear BK640; clear HB; have HO_637000 := n0_; have HO_641000 := n1_; have HO645 := n2_; have HO648 := n3_; have BK636 := n4_; have BK640 := n5_; have HB := n6_; have BK652 := n7_; have GW652 := n8_; have GE652 := n9_; have NB636_652 := n10_; have NB652_636 := n11_; have NB640_652 := n12_; have NB652_640 := n13_; clear n0_ n1_ n2_ n3_ n4_ n5_ n6_ n7_ n8_ n9_ n10_ n11_ n12_ n13_; clear hb hbox hg; refine hK.out _ _ ⟨(blk_cell BK640.out 0).trans rfl, (blk_cell BK640.out 1).trans rfl, (blk_cell BK640.out 2).trans rfl⟩ (fun hHeld => ?_); clear hK K; refine norm_ (a' := ?_) ?_ ?_; rotate_left
               ·show Act.put _ (some 10) _ = _
                simp only [Act.put, List.setIfInBounds_toArray, List.set_cons_zero, List.set_cons_succ, i64_w, i32_w]
                rfl
               exact norm_ (by simp only [putAll, Act.put, List.setIfInBounds_toArray, List.set_cons_zero, List.set_cons_succ]) (hCont (.slice Ao45 y643.length co45, v647, gb652) _ ⟨hHeld, (by exact Kd.R_mono HO645.out (fun _ hk => hk.1)), (by exact Kd.V_mono HO648.out (fun _ hk => ⟨hk.1.1, ⟨hk.1.2.1, ⟨hk.1.2.2.1, ⟨hk.1.2.2.2, hk.2⟩⟩⟩⟩)), (by exact Kd.V_mono HO_637000.out (fun _ hk => ⟨hk.1.1.1, ⟨hk.1.2, ⟨hk.1.1.2.1, ⟨hk.1.1.2.2, hk.2⟩⟩⟩⟩)), (by exact Kd.V_mono HO_641000.out (fun _ hk => ⟨hk.1.1.1, ⟨hk.1.2, ⟨hk.1.1.2.1, ⟨hk.1.1.2.2, hk.2⟩⟩⟩⟩)), (by exact BK636.out), (by exact BK640.out), (by exact BK652.out), GW652.out, GE652.out, NB636_652.out, NB652_636.out, NB640_652.out, NB652_640.out, (by repeat (first | (with_reducible first | exact HB.out | apply bL | apply bP | apply bD | refine bS ?_ GE636.out | refine bS ?_ GE640.out | refine bS ?_ GE652.out) | exact HB.out))⟩)
              ·skip
               refine box_step ?hg (N := 10) ?hd (cs := #[.slice none 0 0, .int .i64 0, .int .i64 0]) (t := 24) ?hr ?_; (case hd => rfl); (case hg => rfl); (case hr => first | (go_simp; done) | (go_simp; rfl)); intro gb652 hg w45 hbox hb; have n0_ := zA (Kd.V_below (Kd.V_elderB HO_637000.out gb652 (Nat.le_of_eq hg.symm)) hb); have n1_ := zA (Kd.V_below (Kd.V_elderB HO_641000.out gb652 (Nat.le_of_eq hg.symm)) hb); have n2_ := zA (Kd.R_below HO645.out hb); have n3_ := zA (bK BK636.out hb); have n4_ := zA (bK BK640.out hb); have n5_ := zA (below_step (by repeat (first | (with_reducible first | exact HB.out | apply bL | apply bP | apply bD | refine bS ?_ GE636.out | refine bS ?_ GE640.out) | exact HB.out)) hb); have n6_ := zA (hbox); have n7_ := zA ((by rw [hg]; exact (below_size (by repeat (first | (with_reducible first | exact HB.out | apply bL | apply bP | apply bD | refine bS ?_ GE636.out | refine bS ?_ GE640.out) | exact HB.out))) : w.heap.size ≤ gb652)); have n8_ := zA ((by rw [hg]; exact (below_size (by repeat (first | (with_reducible first | exact HB.out | apply bL | apply bP | apply bD | refine bS ?_ GE636.out | refine bS ?_ GE640.out) | exact HB.out))) : w.heap.size ≤ gb652)); have n9_ := zA ((by rw [hg]; exact Nat.ne_of_lt (blk_lt BK636.out) : gb636 ≠ gb652)); have n10_ := zA ((by rw [hg]; exact Nat.ne_of_gt (blk_lt BK636.out) : gb652 ≠ gb636)); have n11_ := zA ((by rw [hg]; exact Nat.ne_of_lt (blk_lt BK640.out) : gb640 ≠ gb652)); have n12_ := zA ((by rw [hg]; exact Nat.ne_of_gt (blk_lt BK640.out) : gb652 ≠ gb640))
               clear HO_637000; clear HO_641000; clear HO645; clear BK636; clear BK640; clear HB; have HO_637000 := n0_; have HO_641000 := n1_; have HO645 := n2_; have BK636 := n3_; have BK640 := n4_; have HB := n5_; have BK652 := n6_; have GW652 := n7_; have GE652 := n8_; have NB636_652 := n9_; have NB652_636 := n10_; have NB640_652 := n11_; have NB652_640 := n12_; clear n0_ n1_ n2_ n3_ n4_ n5_ n6_ n7_ n8_ n9_ n10_ n11_ n12_; clear hb hbox hg; obtain ⟨Ao46, co46, eo46⟩ := Kd.R_slice HO645.out
               (first | subst eo46 | (injection eo46 with f1_ f2_ f3_; have f4_ := f1_.symm; have f5_ := f3_.symm; clear f1_ f2_ f3_; subst f4_; subst f5_))
               refine hK.out _ _ ⟨(blk_cell BK640.out 0).trans rfl, (blk_cell BK640.out 1).trans rfl, (blk_cell BK640.out 2).trans rfl⟩ (fun hHeld => ?_); clear hK K; refine norm_ (a' := ?_) ?_ ?_; rotate_left
               ·show Act.put _ (some 10) _ = _
                simp only [Act.put, List.setIfInBounds_toArray, List.set_cons_zero, List.set_cons_succ, i64_w, i32_w]
                rfl
               refine one_ (i := 2) (N := some 59) #[true, true, true, false, false, false, true, false, false] rfl rfl (one_of HT_.out (by kernel_rfl)) (by decide) (fun K hK => ?_); refine goes_ Try.func17 (by kernel_rfl) rfl #[.agg #[.slice Ao41 x641000_2.length co41, .int .i64 x641001_2, .int .i64 x641002_2], .slice Ao46 y643.length co46] (by rfl) rfl rfl (by (try simp only [List.map_toArray, List.map_cons, List.map_nil]); first | done | rfl | (simp only [List.length_drop, List.length_take]; rfl)) ?_
               with_reducible refine (drive_Write.calls _ _ x641000_2 x641001_2 x641002_2 _ _ y643 t646 t649 t650 t651 _ ?side1 ?side2 ?side3 ?side4 A38.out).mono ?_
               (case side1 => repeat (first | exact (Kd.V_reads' HO_641000.out).2.2 | (with_reducible refine Kd.C_alloc ?_ _) | (with_reducible refine Kd.C_drewN ?_ _) | (with_reducible refine Kd.C_drew ?_)))
               (case side2 => exact (Kd.V_reads' HO_641000.out).2.1)
               (case side3 => repeat (first | exact (Kd.R_reads' HO645.out).2.2 | (with_reducible refine Kd.C_alloc ?_ _) | (with_reducible refine Kd.C_drewN ?_ _) | (with_reducible refine Kd.C_drew ?_)))
               (case side4 => exact (Kd.R_reads' HO645.out).2.1)
               rintro e w47 ⟨v647, rfl, ho0, hb⟩
               refine ⟨_, rfl, ?_⟩; have n0_ := zA (Kd.V_below HO_637000.out hb); have n1_ := zA (Kd.V_below HO_641000.out hb); have n2_ := zA (Kd.R_below HO645.out hb); have n3_ := zA (Kd.V_lower (Kd.V_mono (ok' := fun k_ => (P0_0_ k_ ∨ w.heap.size ≤ k_) ∧ some k_ ≠ (.slice Ao46 y643.length co46 : Value).ownBlock ∧ k_ ≠ gb636 ∧ k_ ≠ gb640 ∧ k_ ≠ gb652) ho0 (fun k_ hk_ => ⟨(.inr (Nat.le_trans (below_size (by repeat (first | (with_reducible first | exact HB.out | apply bL | apply bP | apply bD | refine bS ?_ GE636.out | refine bS ?_ GE640.out | refine bS ?_ GE652.out) | exact HB.out))) hk_)), (Kd.fresh' (Kd.R_lt HO645.out) k_ hk_), (Kd.freshB BK636.out k_ hk_), (Kd.freshB BK640.out k_ hk_), (Kd.freshB BK652.out k_ hk_)⟩)) (below_size (by repeat (first | (with_reducible first | exact HB.out | apply bL | apply bP | apply bD | refine bS ?_ GE636.out | refine bS ?_ GE640.out | refine bS ?_ GE652.out) | exact HB.out)))); have n4_ := zA (bK BK636.out hb); have n5_ := zA (bK BK640.out hb); have n6_ := zA (bK BK652.out hb); have n7_ := zA (below_step (by repeat (first | (with_reducible first | exact HB.out | apply bL | apply bP | apply bD | refine bS ?_ GE636.out | refine bS ?_ GE640.out | refine bS ?_ GE652.out) | exact HB.out)) hb); clear HO_637000; clear HO_641000; clear HO645; clear BK636; clear BK640; clear BK652; clear HB; have HO_637000 := n0_; have HO_641000 := n1_; have HO645 := n2_; have HO648 := n3_; have BK636 := n4_
               have BK640 := n5_; have BK652 := n6_; have HB := n7_; clear n0_ n1_ n2_ n3_ n4_ n5_ n6_ n7_
               (try clear hb)
               (try clear hb2)
               (try clear hk)
               (try clear hi)
               (try clear ho0)
               refine hK.out _ _ ⟨(blk_cell BK640.out 0).trans rfl, (blk_cell BK640.out 1).trans rfl, (blk_cell BK640.out 2).trans rfl⟩ (fun hHeld => ?_); clear hK K; refine norm_ (a' := ?_) ?_ ?_; rotate_left
               ·show Act.put _ (some 59) _ = _
                simp only [Act.put, List.setIfInBounds_toArray, List.set_cons_zero, List.set_cons_succ, i64_w, i32_w]
                rfl
               refine pure_ (i := 3) (N := some 56) (v := ?_) (a' := ?_) #[true, true, true, true, false, false, true, false, false] rfl rfl (any_of HT_.out (by kernel_rfl)) (fun _ _ _ h => h) (Or.inl ⟨by rfl, ?_⟩) ?_ ?_; rotate_left
               ·intro w'
                go_simp
                with_reducible rfl
               rotate_left
               ·simp only [Act.put, List.setIfInBounds_toArray, List.set_cons_zero, List.set_cons_succ, i64_w, i32_w]
                rfl
               refine pure_ (i := 4) (N := some 60) (v := ?_) (a' := ?_) #[true, true, true, true, true, false, true, false, false] rfl rfl (any_of HT_.out (by kernel_rfl)) (fun _ _ _ h => h) (Or.inl ⟨by rfl, ?_⟩) ?_ ?_; rotate_left
               ·intro w'
                go_simp
                with_reducible rfl
               rotate_left
               ·simp only [Act.put, List.setIfInBounds_toArray, List.set_cons_zero, List.set_cons_succ, i64_w, i32_w]
                rfl
               refine pure_ (i := 5) (N := some 61) (v := ?_) (a' := ?_) #[true, true, true, true, true, true, true, false, false] rfl rfl (any_of HT_.out (by kernel_rfl)) (fun _ _ _ h => h) (Or.inl ⟨by rfl, ?_⟩) ?_ ?_; rotate_left
               ·intro w'
                go_simp
                with_reducible rfl
               rotate_left
               ·simp only [Act.put, List.setIfInBounds_toArray, List.set_cons_zero, List.set_cons_succ, i64_w, i32_w]
                rfl
               exact norm_ (by simp only [putAll, Act.put, List.setIfInBounds_toArray, List.set_cons_zero, List.set_cons_succ]) (hCont (.slice Ao46 y643.length co46, v647, gb652) _ ⟨hHeld, (by exact Kd.R_mono HO645.out (fun _ hk => hk.1)), HO648.out, (by exact Kd.V_mono HO_637000.out (fun _ hk => ⟨hk.1.1.1, ⟨hk.1.2, ⟨hk.1.1.2.1, ⟨hk.1.1.2.2, hk.2⟩⟩⟩⟩)), (by exact Kd.V_mono HO_641000.out (fun _ hk => ⟨hk.1.1.1, ⟨hk.1.2, ⟨hk.1.1.2.1, ⟨hk.1.1.2.2, hk.2⟩⟩⟩⟩)), (by exact BK636.out), (by exact BK640.out), (by exact BK652.out), GW652.out, GE652.out, NB636_652.out, NB652_636.out, NB640_652.out, NB652_640.out, (by repeat (first | (with_reducible first | exact HB.out | apply bL | apply bP | apply bD | refine bS ?_ GE636.out | refine bS ?_ GE640.out | refine bS ?_ GE652.out) | exact HB.out))⟩)
             ·skip
              refine box_step ?hg (N := 10) ?hd (cs := #[.slice none 0 0, .int .i64 0, .int .i64 0]) (t := 24) ?hr ?_; (case hd => rfl); (case hg => rfl); (case hr => first | (go_simp; done) | (go_simp; rfl)); intro gb652 hg w43 hbox hb; have n0_ := zA (Kd.V_below (Kd.V_elderB HO_637000.out gb652 (Nat.le_of_eq hg.symm)) hb); have n1_ := zA (Kd.V_below (Kd.V_elderB HO_641000.out gb652 (Nat.le_of_eq hg.symm)) hb); have n2_ := zA (bK BK636.out hb); have n3_ := zA (bK BK640.out hb); have n4_ := zA (below_step (by repeat (first | (with_reducible first | exact HB.out | apply bL | apply bP | apply bD | refine bS ?_ GE636.out | refine bS ?_ GE640.out) | exact HB.out)) hb); have n5_ := zA (hbox); have n6_ := zA ((by rw [hg]; exact (below_size (by repeat (first | (with_reducible first | exact HB.out | apply bL | apply bP | apply bD | refine bS ?_ GE636.out | refine bS ?_ GE640.out) | exact HB.out))) : w.heap.size ≤ gb652)); have n7_ := zA ((by rw [hg]; exact (below_size (by repeat (first | (with_reducible first | exact HB.out | apply bL | apply bP | apply bD | refine bS ?_ GE636.out | refine bS ?_ GE640.out) | exact HB.out))) : w.heap.size ≤ gb652)); have n8_ := zA ((by rw [hg]; exact Nat.ne_of_lt (blk_lt BK636.out) : gb636 ≠ gb652)); have n9_ := zA ((by rw [hg]; exact Nat.ne_of_gt (blk_lt BK636.out) : gb652 ≠ gb636)); have n10_ := zA ((by rw [hg]; exact Nat.ne_of_lt (blk_lt BK640.out) : gb640 ≠ gb652)); have n11_ := zA ((by rw [hg]; exact Nat.ne_of_gt (blk_lt BK640.out) : gb652 ≠ gb640)); clear HO_637000; clear HO_641000; clear BK636; clear BK640; clear HB; have HO_637000 := n0_
              have HO_641000 := n1_; have BK636 := n2_; have BK640 := n3_; have HB := n4_; have BK652 := n5_; have GW652 := n6_; have GE652 := n7_; have NB636_652 := n8_; have NB652_636 := n9_; have NB640_652 := n10_; have NB652_640 := n11_; clear n0_ n1_ n2_ n3_ n4_ n5_ n6_ n7_ n8_ n9_ n10_ n11_; clear hb hbox hg; refine hK.out _ _ ⟨(blk_cell BK640.out 0).trans rfl, (blk_cell BK640.out 1).trans rfl, (blk_cell BK640.out 2).trans rfl⟩ (fun hHeld => ?_); clear hK K; refine norm_ (a' := ?_) ?_ ?_; rotate_left
              ·show Act.put _ (some 10) _ = _
               simp only [Act.put, List.setIfInBounds_toArray, List.set_cons_zero, List.set_cons_succ, i64_w, i32_w]
               rfl
              refine one_ (i := 1) (N := some 58) #[true, true, false, false, false, false, true, false, false] rfl rfl (one_of HT_.out (by kernel_rfl)) (by decide) (fun K hK => ?_); refine Kd.R_make_step (Kd.int .u8) _ 5 (by rfl) (N := 58) rfl 25 _ _ rfl 512 rfl rfl Try.underlying25 (.int .u8 0) 1 info5 rfl (by decide) (by omega) 0 (ok := fun _ => True) (okp := fun _ => True) rfl (fun _ hk => hk) trivial (by omega) (by omega) (Below.refl _ _) (Nat.le_refl _) ?_; intro v644 w44 ho45 hb hg_ hnew_; clear hg_ hnew_
              (first | rw [← Ny643.out] at ho45 | (simp only [Int.reduceToNat] at ho45; rw [← Ny643.out] at ho45))
              have n0_ := zA (Kd.V_elder' HO_637000.out (Kd.R_base ho45) hb); have n1_ := zA (Kd.V_elder' HO_641000.out (Kd.R_base ho45) hb); have n2_ := zA (Kd.R_lower (Kd.R_newM (M := fun k_ => (w.heap.size ≤ k_)) ho45 (below_size (by repeat (first | (with_reducible first | exact HB.out | apply bL | apply bP | apply bD | refine bS ?_ GE636.out | refine bS ?_ GE640.out | refine bS ?_ GE652.out) | exact HB.out))) (fun k_ h_ => h_)) (below_size (by repeat (first | (with_reducible first | exact HB.out | apply bL | apply bP | apply bD | refine bS ?_ GE636.out | refine bS ?_ GE640.out | refine bS ?_ GE652.out) | exact HB.out)))); have n3_ := zA (bK BK636.out hb); have n4_ := zA (bK BK640.out hb); have n5_ := zA (bK BK652.out hb); have n6_ := zA (below_step (by repeat (first | (with_reducible first | exact HB.out | apply bL | apply bP | apply bD | refine bS ?_ GE636.out | refine bS ?_ GE640.out | refine bS ?_ GE652.out) | exact HB.out)) hb); clear HO_637000; clear HO_641000; clear BK636; clear BK640; clear BK652; clear HB; have HO_637000 := n0_; have HO_641000 := n1_; have HO645 := n2_; have BK636 := n3_; have BK640 := n4_; have BK652 := n5_; have HB := n6_; clear n0_ n1_ n2_ n3_ n4_ n5_ n6_; clear hb ho45; obtain ⟨Ao46, co46, eo46⟩ := Kd.R_slice HO645.out
              (first | subst eo46 | (injection eo46 with f1_ f2_ f3_; have f4_ := f1_.symm; have f5_ := f3_.symm; clear f1_ f2_ f3_; subst f4_; subst f5_))
              refine hK.out _ _ ⟨(blk_cell BK640.out 0).trans rfl, (blk_cell BK640.out 1).trans rfl, (blk_cell BK640.out 2).trans rfl⟩ (fun hHeld => ?_); clear hK K; refine norm_ (a' := ?_) ?_ ?_; rotate_left
              ·show Act.put _ (some 58) _ = _
               simp only [Act.put, List.setIfInBounds_toArray, List.set_cons_zero, List.set_cons_succ, i64_w, i32_w]
               rfl
              refine one_ (i := 2) (N := some 59) #[true, true, true, false, false, false, true, false, false] rfl rfl (one_of HT_.out (by kernel_rfl)) (by decide) (fun K hK => ?_); refine goes_ Try.func17 (by kernel_rfl) rfl #[.agg #[.slice Ao41 x641000_2.length co41, .int .i64 x641001_2, .int .i64 x641002_2], .slice Ao46 y643.length co46] (by rfl) rfl rfl (by (try simp only [List.map_toArray, List.map_cons, List.map_nil]); first | done | rfl | (simp only [List.length_drop, List.length_take]; rfl)) ?_
              with_reducible refine (drive_Write.calls _ _ x641000_2 x641001_2 x641002_2 _ _ y643 t646 t649 t650 t651 _ ?side1 ?side2 ?side3 ?side4 A38.out).mono ?_
              (case side1 => repeat (first | exact (Kd.V_reads' HO_641000.out).2.2 | (with_reducible refine Kd.C_alloc ?_ _) | (with_reducible refine Kd.C_drewN ?_ _) | (with_reducible refine Kd.C_drew ?_)))
              (case side2 => exact (Kd.V_reads' HO_641000.out).2.1)
              (case side3 => repeat (first | exact (Kd.R_reads' HO645.out).2.2 | (with_reducible refine Kd.C_alloc ?_ _) | (with_reducible refine Kd.C_drewN ?_ _) | (with_reducible refine Kd.C_drew ?_)))
              (case side4 => exact (Kd.R_reads' HO645.out).2.1)
              rintro e w47 ⟨v647, rfl, ho0, hb⟩
              refine ⟨_, rfl, ?_⟩; have n0_ := zA (Kd.V_below HO_637000.out hb); have n1_ := zA (Kd.V_below HO_641000.out hb); have n2_ := zA (Kd.R_below HO645.out hb); have n3_ := zA (Kd.V_lower (Kd.V_mono (ok' := fun k_ => (P0_0_ k_ ∨ w.heap.size ≤ k_) ∧ some k_ ≠ (.slice Ao46 y643.length co46 : Value).ownBlock ∧ k_ ≠ gb636 ∧ k_ ≠ gb640 ∧ k_ ≠ gb652) ho0 (fun k_ hk_ => ⟨(.inr (Nat.le_trans (below_size (by repeat (first | (with_reducible first | exact HB.out | apply bL | apply bP | apply bD | refine bS ?_ GE636.out | refine bS ?_ GE640.out | refine bS ?_ GE652.out) | exact HB.out))) hk_)), (Kd.fresh' (Kd.R_lt HO645.out) k_ hk_), (Kd.freshB BK636.out k_ hk_), (Kd.freshB BK640.out k_ hk_), (Kd.freshB BK652.out k_ hk_)⟩)) (below_size (by repeat (first | (with_reducible first | exact HB.out | apply bL | apply bP | apply bD | refine bS ?_ GE636.out | refine bS ?_ GE640.out | refine bS ?_ GE652.out) | exact HB.out)))); have n4_ := zA (bK BK636.out hb); have n5_ := zA (bK BK640.out hb); have n6_ := zA (bK BK652.out hb); have n7_ := zA (below_step (by repeat (first | (with_reducible first | exact HB.out | apply bL | apply bP | apply bD | refine bS ?_ GE636.out | refine bS ?_ GE640.out | refine bS ?_ GE652.out) | exact HB.out)) hb); clear HO_637000; clear HO_641000; clear HO645; clear BK636; clear BK640; clear BK652; clear HB; have HO_637000 := n0_; have HO_641000 := n1_; have HO645 := n2_; have HO648 := n3_; have BK636 := n4_
              have BK640 := n5_; have BK652 := n6_; have HB := n7_; clear n0_ n1_ n2_ n3_ n4_ n5_ n6_ n7_
              (try clear hb)
              (try clear hb2)
              (try clear hk)
              (try clear hi)
              (try clear ho0)
              refine hK.out _ _ ⟨(blk_cell BK640.out 0).trans rfl, (blk_cell BK640.out 1).trans rfl, (blk_cell BK640.out 2).trans rfl⟩ (fun hHeld => ?_); clear hK K; refine norm_ (a' := ?_) ?_ ?_; rotate_left
              ·show Act.put _ (some 59) _ = _
               simp only [Act.put, List.setIfInBounds_toArray, List.set_cons_zero, List.set_cons_succ, i64_w, i32_w]
               rfl
              refine pure_ (i := 3) (N := some 56) (v := ?_) (a' := ?_) #[true, true, true, true, false, false, true, false, false] rfl rfl (any_of HT_.out (by kernel_rfl)) (fun _ _ _ h => h) (Or.inl ⟨by rfl, ?_⟩) ?_ ?_; rotate_left
              ·intro w'
               go_simp
               with_reducible rfl
              rotate_left
              ·simp only [Act.put, List.setIfInBounds_toArray, List.set_cons_zero, List.set_cons_succ, i64_w, i32_w]
               rfl
              refine pure_ (i := 4) (N := some 60) (v := ?_) (a' := ?_) #[true, true, true, true, true, false, true, false, false] rfl rfl (any_of HT_.out (by kernel_rfl)) (fun _ _ _ h => h) (Or.inl ⟨by rfl, ?_⟩) ?_ ?_; rotate_left
              ·intro w'
               go_simp
               with_reducible rfl
              rotate_left
              ·simp only [Act.put, List.setIfInBounds_toArray, List.set_cons_zero, List.set_cons_succ, i64_w, i32_w]
               rfl
              refine pure_ (i := 5) (N := some 61) (v := ?_) (a' := ?_) #[true, true, true, true, true, true, true, false, false] rfl rfl (any_of HT_.out (by kernel_rfl)) (fun _ _ _ h => h) (Or.inl ⟨by rfl, ?_⟩) ?_ ?_; rotate_left
              ·intro w'
               go_simp
               with_reducible rfl
              rotate_left
              ·simp only [Act.put, List.setIfInBounds_toArray, List.set_cons_zero, List.set_cons_succ, i64_w, i32_w]
               rfl
              exact norm_ (by simp only [putAll, Act.put, List.setIfInBounds_toArray, List.set_cons_zero, List.set_cons_succ]) (hCont (.slice Ao46 y643.length co46, v647, gb652) _ ⟨hHeld, (by exact Kd.R_mono HO645.out (fun _ hk => hk.1)), HO648.out, (by exact Kd.V_mono HO_637000.out (fun _ hk => ⟨hk.1.1.1, ⟨hk.2, ⟨hk.1.1.2.1, ⟨hk.1.1.2.2, hk.1.2⟩⟩⟩⟩)), (by exact Kd.V_mono HO_641000.out (fun _ hk => ⟨hk.1.1.1, ⟨hk.2, ⟨hk.1.1.2.1, ⟨hk.1.1.2.2, hk.1.2⟩⟩⟩⟩)), (by exact BK636.out), (by exact BK640.out), (by exact BK652.out), GW652.out, GE652.out, NB636_652.out, NB652_636.out, NB640_652.out, NB652_640.out, (by repeat (first | (with_reducible first | exact HB.out | apply bL | apply bP | apply bD | refine bS ?_ GE636.out | refine bS ?_ GE640.out | refine bS ?_ GE652.out) | exact HB.out))⟩)
            rintro ⟨v644, v647, gb652⟩ w48 ⟨hS_, h0_, h1_, h2_, h3_, h4_, h5_, h6_, h7_, h8_, h9_, h10_, h11_, h12_, h13_⟩
            have n0_ : Aside0 (Kd.R (Kd.int .u8) 5 w48 w.heap.size (fun k_ => (w.heap.size ≤ k_)) v644 y643) := ⟨h0_⟩; have n1_ : Aside0 (Kd.V k41 41 w48 w.heap.size (fun k_ => (P0_0_ k_ ∨ w.heap.size ≤ k_) ∧ some k_ ≠ (v644 : Value).ownBlock ∧ k_ ≠ gb636 ∧ k_ ≠ gb640 ∧ k_ ≠ gb652) v647 t646) := ⟨h1_⟩; have n2_ : Aside0 (Kd.V k41 41 w48 w.heap.size (fun k_ => (P0_0_ k_ ∨ w.heap.size ≤ k_) ∧ some k_ ≠ (v644 : Value).ownBlock ∧ k_ ≠ gb636 ∧ k_ ≠ gb640 ∧ k_ ≠ gb652) (.slice (some ad641) l0_0.length c0_0) l0_0) := ⟨h2_⟩; have n3_ : Aside0 (Kd.V k41 41 w48 w.heap.size (fun k_ => (P0_0_ k_ ∨ w.heap.size ≤ k_) ∧ some k_ ≠ (v644 : Value).ownBlock ∧ k_ ≠ gb636 ∧ k_ ≠ gb640 ∧ k_ ≠ gb652) (.slice Ao41 x641000_2.length co41) x641000_2) := ⟨h3_⟩; have n4_ : Aside0 (w48.heap[gb636]? = some (.cells #[.slice (some ad641) l0_0.length c0_0, .int .i64 a0_1, .int .i64 a0_2] 24 (0, 0))) := ⟨h4_⟩; have n5_ : Aside0 (w48.heap[gb640]? = some (.cells #[.slice Ao41 x641000_2.length co41, .int .i64 x641001_2, .int .i64 x641002_2] 24 (0, 0))) := ⟨h5_⟩; have n6_ : Aside0 (w48.heap[gb652]? = some (.cells #[.slice none 0 0, .int .i64 0, .int .i64 0] 24 (0, 0))) := ⟨h6_⟩; have n7_ : Aside0 (w.heap.size ≤ gb652) := ⟨h7_⟩; have n8_ : Aside0 (w.heap.size ≤ gb652) := ⟨h8_⟩; have n9_ : Aside0 (gb636 ≠ gb652) := ⟨h9_⟩; have n10_ : Aside0 (gb652 ≠ gb636) := ⟨h10_⟩; have n11_ : Aside0 (gb640 ≠ gb652) := ⟨h11_⟩; have n12_ : Aside0 (gb652 ≠ gb640) := ⟨h12_⟩; have n13_ : Aside0 (Below w.heap.size w w48) := ⟨h13_⟩; clear HO_637000; clear HO_641000; clear BK636; clear BK640; clear HB; clear h0_ h1_ h2_ h3_ h4_ h5_ h6_ h7_ h8_ h9_ h10_ h11_ h12_ h13_; have HO645 := n0_; have HO648 := n1_; have HO_637000 := n2_; have HO_641000 := n3_; have BK636 := n4_; have BK640 := n5_; have BK652 := n6_; have GW652 := n7_; have GE652 := n8_; have NB636_652 := n9_; have NB652_636 := n10_; have NB640_652 := n11_; have NB652_640 := n12_; have HB := n13_; clear n0_ n1_ n2_ n3_ n4_ n5_ n6_ n7_ n8_ n9_ n10_ n11_ n12_ n13_; have hHeld : w48.cell? ⟨gb640, 0, none⟩ = some (.slice Ao41 x641000_2.length co41) ∧ w48.cell? ⟨gb640, 1, none⟩ = some (.int .i64 x641001_2) ∧ w48.cell? ⟨gb640, 2, none⟩ = some (.int .i64 x641002_2) := hS_; obtain ⟨Ao49, co49, eo49⟩ := Kd.V_slice HO648.out
            (first | subst eo49 | (injection eo49 with f1_ f2_ f3_; have f4_ := f1_.symm; have f5_ := f3_.symm; clear f1_ f2_ f3_; subst f4_; subst f5_))
            refine norm_ (a' := ?_) ?_ ?_; rotate_left
            ·simp only [putAll, Act.put, List.setIfInBounds_toArray, List.set_cons_zero, List.set_cons_succ]
             rfl
            refine one_ (i := 7) (N := none) #[true, true, true, true, true, true, true, true, false] rfl rfl (one_of HT_.out (by kernel_rfl)) (by decide) (fun K hK => ?_); have hs50 : w48.cell? ⟨gb652, 0, none⟩ = some (.slice none 0 0) := (blk_cell BK652.out 0).trans rfl; have hfs50 := blk_frozen BK652.out 0; have hns50_0 := NB636_652.out; have hns50_1 := NB640_652.out; have hms50_0 := NB652_636.out; have hms50_1 := NB652_640.out; have hs51 : w48.cell? ⟨gb652, 1, none⟩ = some (.int .i64 0) := (blk_cell BK652.out 1).trans rfl; have hfs51 := blk_frozen BK652.out 1; have hns51_0 := NB636_652.out; have hns51_1 := NB640_652.out; have hms51_0 := NB652_636.out; have hms51_1 := NB652_640.out; have hs52 : w48.cell? ⟨gb652, 2, none⟩ = some (.int .i64 0) := (blk_cell BK652.out 2).trans rfl; have hfs52 := blk_frozen BK652.out 2; have hns52_0 := NB636_652.out; have hns52_1 := NB640_652.out; have hms52_0 := NB652_636.out; have hms52_1 := NB652_640.out; refine skip_ (w1 := ?_) (by rfl) rfl ?_ ?_; rotate_left
            ·go_simp
             rfl
            refine hK.out _ _ ⟨((cell_far (p := ⟨gb652, _, none⟩) NB640_652.out _).trans (((cell_far (p := ⟨gb652, _, none⟩) NB640_652.out _).trans (((cell_far (p := ⟨gb652, _, none⟩) NB640_652.out _).trans (hHeld.1)))))), ((cell_far (p := ⟨gb652, _, none⟩) NB640_652.out _).trans (((cell_far (p := ⟨gb652, _, none⟩) NB640_652.out _).trans (((cell_far (p := ⟨gb652, _, none⟩) NB640_652.out _).trans (hHeld.2.1)))))), ((cell_far (p := ⟨gb652, _, none⟩) NB640_652.out _).trans (((cell_far (p := ⟨gb652, _, none⟩) NB640_652.out _).trans (((cell_far (p := ⟨gb652, _, none⟩) NB640_652.out _).trans (hHeld.2.2))))))⟩ (fun hHeld => ?_); clear hK K; refine pure_ (i := 8) (N := some 11) (v := ?_) (a' := ?_) #[true, true, true, true, true, true, true, true, true] rfl rfl (any_of HT_.out (by kernel_rfl)) (fun _ _ _ h => h) (Or.inl ⟨by rfl, ?_⟩) ?_ ?_; rotate_left
            ·intro w'
             go_simp
             with_reducible rfl
            rotate_left
            ·simp only [Act.put, List.setIfInBounds_toArray, List.set_cons_zero, List.set_cons_succ, i64_w, i32_w]
             rfl
            refine done_ (done_of HT_.out (by kernel_rfl)) ?_; have hnb53 := NB652_636.out; have hnc53 := NB636_652.out; have hnb54 := NB652_640.out; have hnc54 := NB640_652.out; have hcz55_0 : w48.cell? ⟨gb652, 0, none⟩ = some (.slice none 0 0) := (blk_cell BK652.out 0).trans rfl; have hcz55_1 : w48.cell? ⟨gb652, 1, none⟩ = some (.int .i64 0) := (blk_cell BK652.out 1).trans rfl; have hcz55_2 : w48.cell? ⟨gb652, 2, none⟩ = some (.int .i64 0) := (blk_cell BK652.out 2).trans rfl; have hfz55_0 := blk_frozen BK652.out 0; have hfz55_1 := blk_frozen BK652.out 1; have hfz55_2 := blk_frozen BK652.out 2; have hnb56 := NB640_636.out; have hnc56 := NB636_640.out; have hcz57_0 : w48.cell? ⟨gb640, 0, none⟩ = some (.slice Ao41 x641000_2.length co41) := (blk_cell BK640.out 0).trans rfl; have hcz57_1 : w48.cell? ⟨gb640, 1, none⟩ = some (.int .i64 x641001_2) := (blk_cell BK640.out 1).trans rfl; have hcz57_2 : w48.cell? ⟨gb640, 2, none⟩ = some (.int .i64 x641002_2) := (blk_cell BK640.out 2).trans rfl; have hfz57_0 := blk_frozen BK640.out 0; have hfz57_1 := blk_frozen BK640.out 1; have hfz57_2 := blk_frozen BK640.out 2
            try go_wp2
            go_roundg k2
            case measure => have := HJ4.out; have := HK2.out; omega
            case rel => exact ⟨(wrap64 (x9_2 + 1)), (t646), (t649), (t650), (.slice Ao49 t646.length co49), (by first | rfl | (simp; done) | (simp [*]; done)), H', ⟨by have := HJ4.out; have := HK2.out; omega⟩, ⟨by exact Kd.V_mono (Kd.V_far (p := ⟨gb640, 2, none⟩) (Kd.V_far (p := ⟨gb640, 1, none⟩) (Kd.V_far (p := ⟨gb640, 0, none⟩) (Kd.V_far (p := ⟨gb652, 2, none⟩) (Kd.V_far (p := ⟨gb652, 1, none⟩) (Kd.V_far (p := ⟨gb652, 0, none⟩) (Kd.V_mono (Kd.V_mono HO_637000.out (fun k_ hk => (⟨hk, hk.2.2.2.2⟩ : _ ∧ k_ ≠ gb652))) (fun k_ hk => (⟨hk, hk.1.2.2.2.1⟩ : _ ∧ k_ ≠ gb640))) (fun _ hk => hk.1.2) (.slice Ao49 t646.length co49)) (fun _ hk => hk.1.2) (.int .i64 t649)) (fun _ hk => hk.1.2) (.int .i64 t650)) (fun _ hk => hk.2) (.slice Ao49 t646.length co49)) (fun _ hk => hk.2) (.int .i64 t649)) (fun _ hk => hk.2) (.int .i64 t650)) (fun _ hk => ⟨hk.1.1.1, ⟨hk.1.1.2.2.1, hk.1.1.2.2.2.1⟩⟩)⟩, ⟨by exact Kd.V_mono (Kd.V_far (p := ⟨gb640, 2, none⟩) (Kd.V_far (p := ⟨gb640, 1, none⟩) (Kd.V_far (p := ⟨gb640, 0, none⟩) (Kd.V_far (p := ⟨gb652, 2, none⟩) (Kd.V_far (p := ⟨gb652, 1, none⟩) (Kd.V_far (p := ⟨gb652, 0, none⟩) (Kd.V_mono (Kd.V_mono HO648.out (fun k_ hk => (⟨hk, hk.2.2.2.2⟩ : _ ∧ k_ ≠ gb652))) (fun k_ hk => (⟨hk, hk.1.2.2.2.1⟩ : _ ∧ k_ ≠ gb640))) (fun _ hk => hk.1.2) (.slice Ao49 t646.length co49)) (fun _ hk => hk.1.2) (.int .i64 t649)) (fun _ hk => hk.1.2) (.int .i64 t650)) (fun _ hk => hk.2) (.slice Ao49 t646.length co49)) (fun _ hk => hk.2) (.int .i64 t649)) (fun _ hk => hk.2) (.int .i64 t650)) (fun _ hk => ⟨hk.1.1.1, ⟨hk.1.1.2.2.1, hk.1.1.2.2.2.1⟩⟩)⟩, ⟨by refine blk_far ?_ NB636_640.out _; refine blk_far ?_ NB636_640.out _; refine blk_far ?_ NB636_640.out _; refine blk_far ?_ NB636_652.out _; refine blk_far ?_ NB636_652.out _; refine blk_far ?_ NB636_652.out _; exact BK636.out⟩, ⟨by refine blk_put (cs := #[.slice Ao49 t646.length co49, .int .i64 t649, .int .i64 x641002_2]) ?_ 2 _ rfl; refine blk_put (cs := #[.slice Ao49 t646.length co49, .int .i64 x641001_2, .int .i64 x641002_2]) ?_ 1 _ rfl; refine blk_put (cs := #[.slice Ao41 x641000_2.length co41, .int .i64 x641001_2, .int .i64 x641002_2]) ?_ 0 _ rfl; refine blk_far ?_ NB640_652.out _; refine blk_far ?_ NB640_652.out _; refine blk_far ?_ NB640_652.out _; exact BK640.out⟩, ⟨by repeat (first | (with_reducible first | exact HB.out | apply bL | apply bP | apply bD | refine bS ?_ GE636.out | refine bS ?_ GE640.out | refine bS ?_ GE652.out) | exact HB.out)⟩⟩
           ·rw [if_neg c40] at H
            have c40b0 : (t651 == 0) = false := beq_eq_false_iff_ne.mpr c40; have c40k0 : (decide (x9_2 < (wrap64 (((rd_T41 l0_0 a0_1).f0) - a0_2)))) = false := (by have h9_ := c39b0; rw [c40b0] at h9_; simpa using h9_); have c40b1 : (t651 != 0) = true := bne_iff_ne.mpr c40
            by_cases c58 : t651 = 8
            ·rw [if_pos c58] at H
             have c58b0 : (t651 == 8) = true := beq_iff_eq.mpr c58; have c58b1 : (t651 != 8) = false := bne_eq_false_iff_eq.mpr c58; clear c58; have H' := zA H; clear H; obtain ⟨Ao59, co59, eo59⟩ := Kd.V_slice HO_641000.out; subst eo59
             try go_wp2
             have n0_ := zA (Kd.V_drew HO_637000.out); have n1_ := zA (Kd.V_drew HO_641000.out); have n2_ := zA (bW BK636.out); have n3_ := zA (bW BK640.out); have n4_ := zA (bD HB.out); clear HO_637000; clear HO_641000; clear BK636; clear BK640; clear HB; have HO_637000 := n0_; have HO_641000 := n1_; have BK636 := n2_; have BK640 := n3_; have HB := n4_; clear n0_ n1_ n2_ n3_ n4_; refine start_ (n := 9) (S := fun w' => w'.cell? ⟨gb640, 0, none⟩ = some (.slice Ao59 x641000_2.length co59) ∧ w'.cell? ⟨gb640, 1, none⟩ = some (.int .i64 x641001_2) ∧ w'.cell? ⟨gb640, 2, none⟩ = some (.int .i64 x641002_2)) (ds := []) #[false, false, false, false, false, false, false, false, false] (by kernel_rfl) rfl rfl ⟨(blk_cell BK640.out 0).trans rfl, (blk_cell BK640.out 1).trans rfl, (blk_cell BK640.out 2).trans rfl⟩ (fun hHeld => ?_); refine with_tabW reelkeeperlaw13_DriveFills.tab10 reelkeeperlaw13_DriveFills.bits10 (fun HT_ HW_ => ?_)
             generalize wr.drew = w60 at HO_637000 HO_641000 BK636 BK640 HB hHeld ⊢
             refine take_ (i := 0) (N := some 57) (v := ?_) (a' := ?_) #[true, false, false, false, false, false, false, false, false] rfl rfl (take_ofW HT_.out HW_.out (by kernel_rfl)) (fun _ _ _ h => h) (Or.inl ⟨by rfl, ?_⟩) hHeld ?_ ?_; rotate_left
             ·rintro w' ⟨s0, s1, s2⟩
              go_simp
              with_reducible rfl
             rotate_left
             ·simp only [Act.put, List.setIfInBounds_toArray, List.set_cons_zero, List.set_cons_succ, i64_w, i32_w]
              rfl
             refine join_ (σ := Value × Value × Nat) 2 #[true, true, true, true, true, true, true, false, false] (fun s_ => [(58, s_.1), (59, .tuple #[.agg #[s_.2.1, .int .i64 t649, .int .i64 t650], .int .i64 t651]), (10, .pointer (some ⟨s_.2.2, 0, none⟩)), (56, .tuple #[.agg #[s_.2.1, .int .i64 t649, .int .i64 t650], .int .i64 t651]), (60, .agg #[s_.2.1, .int .i64 t649, .int .i64 t650]), (61, .int .i64 t651)]) (fun s_ w' => (w'.cell? ⟨gb640, 0, none⟩ = some (.slice Ao59 x641000_2.length co59) ∧ w'.cell? ⟨gb640, 1, none⟩ = some (.int .i64 x641001_2) ∧ w'.cell? ⟨gb640, 2, none⟩ = some (.int .i64 x641002_2)) ∧ (Kd.R (Kd.int .u8) 5 w' w.heap.size (fun k_ => (w.heap.size ≤ k_)) s_.1 y643) ∧ (Kd.V k41 41 w' w.heap.size (fun k_ => (P0_0_ k_ ∨ w.heap.size ≤ k_) ∧ some k_ ≠ (s_.1 : Value).ownBlock ∧ k_ ≠ gb636 ∧ k_ ≠ gb640 ∧ k_ ≠ s_.2.2) s_.2.1 t646) ∧ (Kd.V k41 41 w' w.heap.size (fun k_ => (P0_0_ k_ ∨ w.heap.size ≤ k_) ∧ some k_ ≠ (s_.1 : Value).ownBlock ∧ k_ ≠ gb636 ∧ k_ ≠ gb640 ∧ k_ ≠ s_.2.2) (.slice (some ad641) l0_0.length c0_0) l0_0) ∧ (Kd.V k41 41 w' w.heap.size (fun k_ => (P0_0_ k_ ∨ w.heap.size ≤ k_) ∧ some k_ ≠ (s_.1 : Value).ownBlock ∧ k_ ≠ gb636 ∧ k_ ≠ gb640 ∧ k_ ≠ s_.2.2) (.slice Ao59 x641000_2.length co59) x641000_2) ∧ (w'.heap[gb636]? = some (.cells #[.slice (some ad641) l0_0.length c0_0, .int .i64 a0_1, .int .i64 a0_2] 24 (0, 0))) ∧ (w'.heap[gb640]? = some (.cells #[.slice Ao59 x641000_2.length co59, .int .i64 x641001_2, .int .i64 x641002_2] 24 (0, 0))) ∧ (w'.heap[s_.2.2]? = some (.cells #[.slice none 0 0, .int .i64 0, .int .i64 0] 24 (0, 0))) ∧ (w.heap.size ≤ s_.2.2) ∧ (w.heap.size ≤ s_.2.2) ∧ (gb636 ≠ s_.2.2) ∧ (s_.2.2 ≠ gb636) ∧ (gb640 ≠ s_.2.2) ∧ (s_.2.2 ≠ gb640) ∧ (Below w.heap.size w w')) ?_ ?_; rotate_left
             ·intro hCont
              refine two_ (i := 1) (j := 6) (Ni := some 58) (Nj := some 10) #[true, true, false, false, false, false, false, false, false] #[true, false, false, false, false, false, true, false, false] rfl rfl rfl rfl (two_of HT_.out (by kernel_rfl)) (by decide) (by decide) (fun K hK => ?_) (fun K hK => ?_)
              ·skip
               refine Kd.R_make_step (Kd.int .u8) _ 5 (by rfl) (N := 58) rfl 25 _ _ rfl 512 rfl rfl Try.underlying25 (.int .u8 0) 1 info5 rfl (by decide) (by omega) 0 (ok := fun _ => True) (okp := fun _ => True) rfl (fun _ hk => hk) trivial (by omega) (by omega) (Below.refl _ _) (Nat.le_refl _) ?_; intro v644 w61 ho62 hb hg_ hnew_; clear hg_ hnew_
               (first | rw [← Ny643.out] at ho62 | (simp only [Int.reduceToNat] at ho62; rw [← Ny643.out] at ho62))
               have n0_ := zA (Kd.V_elder' HO_637000.out (Kd.R_base ho62) hb); have n1_ := zA (Kd.V_elder' HO_641000.out (Kd.R_base ho62) hb); have n2_ := zA (Kd.R_lower (Kd.R_newM (M := fun k_ => (w.heap.size ≤ k_)) ho62 (below_size (by repeat (first | (with_reducible first | exact HB.out | apply bL | apply bP | apply bD | refine bS ?_ GE636.out | refine bS ?_ GE640.out) | exact HB.out))) (fun k_ h_ => h_)) (below_size (by repeat (first | (with_reducible first | exact HB.out | apply bL | apply bP | apply bD | refine bS ?_ GE636.out | refine bS ?_ GE640.out) | exact HB.out)))); have n3_ := zA (bK BK636.out hb); have n4_ := zA (bK BK640.out hb); have n5_ := zA (below_step (by repeat (first | (with_reducible first | exact HB.out | apply bL | apply bP | apply bD | refine bS ?_ GE636.out | refine bS ?_ GE640.out) | exact HB.out)) hb); clear HO_637000; clear HO_641000; clear BK636; clear BK640; clear HB; have HO_637000 := n0_; have HO_641000 := n1_; have HO645 := n2_; have BK636 := n3_; have BK640 := n4_; have HB := n5_; clear n0_ n1_ n2_ n3_ n4_ n5_; clear hb ho62; obtain ⟨Ao63, co63, eo63⟩ := Kd.R_slice HO645.out
               (first | subst eo63 | (injection eo63 with f1_ f2_ f3_; have f4_ := f1_.symm; have f5_ := f3_.symm; clear f1_ f2_ f3_; subst f4_; subst f5_))
               refine hK.out _ _ ⟨(blk_cell BK640.out 0).trans rfl, (blk_cell BK640.out 1).trans rfl, (blk_cell BK640.out 2).trans rfl⟩ (fun hHeld => ?_); clear hK K; refine norm_ (a' := ?_) ?_ ?_; rotate_left
               ·show Act.put _ (some 58) _ = _
                simp only [Act.put, List.setIfInBounds_toArray, List.set_cons_zero, List.set_cons_succ, i64_w, i32_w]
                rfl
               refine two_ (i := 2) (j := 6) (Ni := some 59) (Nj := some 10) #[true, true, true, false, false, false, false, false, false] #[true, true, false, false, false, false, true, false, false] rfl rfl rfl rfl (two_of HT_.out (by kernel_rfl)) (by decide) (by decide) (fun K hK => ?_) (fun K hK => ?_)
               ·skip
                refine goes_ Try.func17 (by kernel_rfl) rfl #[.agg #[.slice Ao59 x641000_2.length co59, .int .i64 x641001_2, .int .i64 x641002_2], .slice Ao63 y643.length co63] (by rfl) rfl rfl (by (try simp only [List.map_toArray, List.map_cons, List.map_nil]); first | done | rfl | (simp only [List.length_drop, List.length_take]; rfl)) ?_
                with_reducible refine (drive_Write.calls _ _ x641000_2 x641001_2 x641002_2 _ _ y643 t646 t649 t650 t651 _ ?side1 ?side2 ?side3 ?side4 A38.out).mono ?_
                (case side1 => repeat (first | exact (Kd.V_reads' HO_641000.out).2.2 | (with_reducible refine Kd.C_alloc ?_ _) | (with_reducible refine Kd.C_drewN ?_ _) | (with_reducible refine Kd.C_drew ?_)))
                (case side2 => exact (Kd.V_reads' HO_641000.out).2.1)
                (case side3 => repeat (first | exact (Kd.R_reads' HO645.out).2.2 | (with_reducible refine Kd.C_alloc ?_ _) | (with_reducible refine Kd.C_drewN ?_ _) | (with_reducible refine Kd.C_drew ?_)))
                (case side4 => exact (Kd.R_reads' HO645.out).2.1)
                rintro e w64 ⟨v647, rfl, ho0, hb⟩
                refine ⟨_, rfl, ?_⟩; have n0_ := zA (Kd.V_below HO_637000.out hb); have n1_ := zA (Kd.V_below HO_641000.out hb); have n2_ := zA (Kd.R_below HO645.out hb); have n3_ := zA (Kd.V_lower (Kd.V_mono (ok' := fun k_ => (P0_0_ k_ ∨ w.heap.size ≤ k_) ∧ some k_ ≠ (.slice Ao63 y643.length co63 : Value).ownBlock ∧ k_ ≠ gb636 ∧ k_ ≠ gb640) ho0 (fun k_ hk_ => ⟨(.inr (Nat.le_trans (below_size (by repeat (first | (with_reducible first | exact HB.out | apply bL | apply bP | apply bD | refine bS ?_ GE636.out | refine bS ?_ GE640.out) | exact HB.out))) hk_)), (Kd.fresh' (Kd.R_lt HO645.out) k_ hk_), (Kd.freshB BK636.out k_ hk_), (Kd.freshB BK640.out k_ hk_)⟩)) (below_size (by repeat (first | (with_reducible first | exact HB.out | apply bL | apply bP | apply bD | refine bS ?_ GE636.out | refine bS ?_ GE640.out) | exact HB.out)))); have n4_ := zA (bK BK636.out hb); have n5_ := zA (bK BK640.out hb); have n6_ := zA (below_step (by repeat (first | (with_reducible first | exact HB.out | apply bL | apply bP | apply bD | refine bS ?_ GE636.out | refine bS ?_ GE640.out) | exact HB.out)) hb); clear HO_637000; clear HO_641000; clear HO645; clear BK636; clear BK640; clear HB; have HO_637000 := n0_; have HO_641000 := n1_; have HO645 := n2_; have HO648 := n3_; have BK636 := n4_; have BK640 := n5_; have HB := n6_; clear n0_ n1_ n2_ n3_ n4_ n5_ n6_
                (try clear hb)
                (try clear hb2)
                (try clear hk)
                (try clear hi)
                (try clear ho0)
                refine hK.out _ _ ⟨(blk_cell BK640.out 0).trans rfl, (blk_cell BK640.out 1).trans rfl, (blk_cell BK640.out 2).trans rfl⟩ (fun hHeld => ?_); clear hK K; refine norm_ (a' := ?_) ?_ ?_; rotate_left
                ·show Act.put _ (some 59) _ = _
                 simp only [Act.put, List.setIfInBounds_toArray, List.set_cons_zero, List.set_cons_succ, i64_w, i32_w]
                 rfl
                refine pure_ (i := 3) (N := some 56) (v := ?_) (a' := ?_) #[true, true, true, true, false, false, false, false, false] rfl rfl (any_of HT_.out (by kernel_rfl)) (fun _ _ _ h => h) (Or.inl ⟨by rfl, ?_⟩) ?_ ?_; rotate_left
                ·intro w'
                 go_simp
                 with_reducible rfl
                rotate_left
                ·simp only [Act.put, List.setIfInBounds_toArray, List.set_cons_zero, List.set_cons_succ, i64_w, i32_w]
                 rfl
                refine pure_ (i := 4) (N := some 60) (v := ?_) (a' := ?_) #[true, true, true, true, true, false, false, false, false] rfl rfl (any_of HT_.out (by kernel_rfl)) (fun _ _ _ h => h) (Or.inl ⟨by rfl, ?_⟩) ?_ ?_; rotate_left
                ·intro w'
                 go_simp
                 with_reducible rfl
                rotate_left
                ·simp only [Act.put, List.setIfInBounds_toArray, List.set_cons_zero, List.set_cons_succ, i64_w, i32_w]
                 rfl
                refine pure_ (i := 5) (N := some 61) (v := ?_) (a' := ?_) #[true, true, true, true, true, true, false, false, false] rfl rfl (any_of HT_.out (by kernel_rfl)) (fun _ _ _ h => h) (Or.inl ⟨by rfl, ?_⟩) ?_ ?_; rotate_left
                ·intro w'
                 go_simp
                 with_reducible rfl
                rotate_left
                ·simp only [Act.put, List.setIfInBounds_toArray, List.set_cons_zero, List.set_cons_succ, i64_w, i32_w]
                 rfl
                refine one_ (i := 6) (N := some 10) #[true, true, true, true, true, true, true, false, false] rfl rfl (one_of HT_.out (by kernel_rfl)) (by decide) (fun K hK => ?_); refine box_step ?hg (N := 10) ?hd (cs := #[.slice none 0 0, .int .i64 0, .int .i64 0]) (t := 24) ?hr ?_; (case hd => rfl); (case hg => rfl); (case hr => first | (go_simp; done) | (go_simp; rfl)); intro gb652 hg w65 hbox hb; have n0_ := zA (Kd.V_below (Kd.V_elderB HO_637000.out gb652 (Nat.le_of_eq hg.symm)) hb); have n1_ := zA (Kd.V_below (Kd.V_elderB HO_641000.out gb652 (Nat.le_of_eq hg.symm)) hb); have n2_ := zA (Kd.R_below HO645.out hb); have n3_ := zA (Kd.V_below (Kd.V_elderB HO648.out gb652 (Nat.le_of_eq hg.symm)) hb); have n4_ := zA (bK BK636.out hb); have n5_ := zA (bK BK640.out hb); have n6_ := zA (below_step (by repeat (first | (with_reducible first | exact HB.out | apply bL | apply bP | apply bD | refine bS ?_ GE636.out | refine bS ?_ GE640.out) | exact HB.out)) hb); have n7_ := zA (hbox); have n8_ := zA ((by rw [hg]; exact (below_size (by repeat (first | (with_reducible first | exact HB.out | apply bL | apply bP | apply bD | refine bS ?_ GE636.out | refine bS ?_ GE640.out) | exact HB.out))) : w.heap.size ≤ gb652)); have n9_ := zA ((by rw [hg]; exact (below_size (by repeat (first | (with_reducible first | exact HB.out | apply bL | apply bP | apply bD | refine bS ?_ GE636.out | refine bS ?_ GE640.out) | exact HB.out))) : w.heap.size ≤ gb652)); have n10_ := zA ((by rw [hg]; exact Nat.ne_of_lt (blk_lt BK636.out) : gb636 ≠ gb652)); have n11_ := zA ((by rw [hg]; exact Nat.ne_of_gt (blk_lt BK636.out) : gb652 ≠ gb636)); have n12_ := zA ((by rw [hg]; exact Nat.ne_of_lt (blk_lt BK640.out) : gb640 ≠ gb652))
                have n13_ := zA ((by rw [hg]; exact Nat.ne_of_gt (blk_lt BK640.out) : gb652 ≠ gb640)); clear HO_637000; clear HO_641000; clear HO645; clear HO648; clear BK636; clear BK640; clear HB; have HO_637000 := n0_; have HO_641000 := n1_; have HO645 := n2_; have HO648 := n3_; have BK636 := n4_; have BK640 := n5_; have HB := n6_; have BK652 := n7_; have GW652 := n8_; have GE652 := n9_; have NB636_652 := n10_; have NB652_636 := n11_; have NB640_652 := n12_; have NB652_640 := n13_; clear n0_ n1_ n2_ n3_ n4_ n5_ n6_ n7_ n8_ n9_ n10_ n11_ n12_ n13_; clear hb hbox hg; refine hK.out _ _ ⟨(blk_cell BK640.out 0).trans rfl, (blk_cell BK640.out 1).trans rfl, (blk_cell BK640.out 2).trans rfl⟩ (fun hHeld => ?_); clear hK K; refine norm_ (a' := ?_) ?_ ?_; rotate_left
                ·show Act.put _ (some 10) _ = _
                 simp only [Act.put, List.setIfInBounds_toArray, List.set_cons_zero, List.set_cons_succ, i64_w, i32_w]
                 rfl
                exact norm_ (by simp only [putAll, Act.put, List.setIfInBounds_toArray, List.set_cons_zero, List.set_cons_succ]) (hCont (.slice Ao63 y643.length co63, v647, gb652) _ ⟨hHeld, (by exact Kd.R_mono HO645.out (fun _ hk => hk.1)), (by exact Kd.V_mono HO648.out (fun _ hk => ⟨hk.1.1, ⟨hk.1.2.1, ⟨hk.1.2.2.1, ⟨hk.1.2.2.2, hk.2⟩⟩⟩⟩)), (by exact Kd.V_mono HO_637000.out (fun _ hk => ⟨hk.1.1.1, ⟨hk.1.2, ⟨hk.1.1.2.1, ⟨hk.1.1.2.2, hk.2⟩⟩⟩⟩)), (by exact Kd.V_mono HO_641000.out (fun _ hk => ⟨hk.1.1.1, ⟨hk.1.2, ⟨hk.1.1.2.1, ⟨hk.1.1.2.2, hk.2⟩⟩⟩⟩)), (by exact BK636.out), (by exact BK640.out), (by exact BK652.out), GW652.out, GE652.out, NB636_652.out, NB652_636.out, NB640_652.out, NB652_640.out, (by repeat (first | (with_reducible first | exact HB.out | apply bL | apply bP | apply bD | refine bS ?_ GE636.out | refine bS ?_ GE640.out | refine bS ?_ GE652.out) | exact HB.out))⟩)
               ·skip
                refine box_step ?hg (N := 10) ?hd (cs := #[.slice none 0 0, .int .i64 0, .int .i64 0]) (t := 24) ?hr ?_; (case hd => rfl); (case hg => rfl); (case hr => first | (go_simp; done) | (go_simp; rfl)); intro gb652 hg w63 hbox hb; have n0_ := zA (Kd.V_below (Kd.V_elderB HO_637000.out gb652 (Nat.le_of_eq hg.symm)) hb); have n1_ := zA (Kd.V_below (Kd.V_elderB HO_641000.out gb652 (Nat.le_of_eq hg.symm)) hb); have n2_ := zA (Kd.R_below HO645.out hb); have n3_ := zA (bK BK636.out hb); have n4_ := zA (bK BK640.out hb); have n5_ := zA (below_step (by repeat (first | (with_reducible first | exact HB.out | apply bL | apply bP | apply bD | refine bS ?_ GE636.out | refine bS ?_ GE640.out) | exact HB.out)) hb); have n6_ := zA (hbox); have n7_ := zA ((by rw [hg]; exact (below_size (by repeat (first | (with_reducible first | exact HB.out | apply bL | apply bP | apply bD | refine bS ?_ GE636.out | refine bS ?_ GE640.out) | exact HB.out))) : w.heap.size ≤ gb652)); have n8_ := zA ((by rw [hg]; exact (below_size (by repeat (first | (with_reducible first | exact HB.out | apply bL | apply bP | apply bD | refine bS ?_ GE636.out | refine bS ?_ GE640.out) | exact HB.out))) : w.heap.size ≤ gb652)); have n9_ := zA ((by rw [hg]; exact Nat.ne_of_lt (blk_lt BK636.out) : gb636 ≠ gb652)); have n10_ := zA ((by rw [hg]; exact Nat.ne_of_gt (blk_lt BK636.out) : gb652 ≠ gb636)); have n11_ := zA ((by rw [hg]; exact Nat.ne_of_lt (blk_lt BK640.out) : gb640 ≠ gb652)); have n12_ := zA ((by rw [hg]; exact Nat.ne_of_gt (blk_lt BK640.out) : gb652 ≠ gb640))
                clear HO_637000; clear HO_641000; clear HO645; clear BK636; clear BK640; clear HB; have HO_637000 := n0_; have HO_641000 := n1_; have HO645 := n2_; have BK636 := n3_; have BK640 := n4_; have HB := n5_; have BK652 := n6_; have GW652 := n7_; have GE652 := n8_; have NB636_652 := n9_; have NB652_636 := n10_; have NB640_652 := n11_; have NB652_640 := n12_; clear n0_ n1_ n2_ n3_ n4_ n5_ n6_ n7_ n8_ n9_ n10_ n11_ n12_; clear hb hbox hg; obtain ⟨Ao64, co64, eo64⟩ := Kd.R_slice HO645.out
                (first | subst eo64 | (injection eo64 with f1_ f2_ f3_; have f4_ := f1_.symm; have f5_ := f3_.symm; clear f1_ f2_ f3_; subst f4_; subst f5_))
                refine hK.out _ _ ⟨(blk_cell BK640.out 0).trans rfl, (blk_cell BK640.out 1).trans rfl, (blk_cell BK640.out 2).trans rfl⟩ (fun hHeld => ?_); clear hK K; refine norm_ (a' := ?_) ?_ ?_; rotate_left
                ·show Act.put _ (some 10) _ = _
                 simp only [Act.put, List.setIfInBounds_toArray, List.set_cons_zero, List.set_cons_succ, i64_w, i32_w]
                 rfl
                refine one_ (i := 2) (N := some 59) #[true, true, true, false, false, false, true, false, false] rfl rfl (one_of HT_.out (by kernel_rfl)) (by decide) (fun K hK => ?_); refine goes_ Try.func17 (by kernel_rfl) rfl #[.agg #[.slice Ao59 x641000_2.length co59, .int .i64 x641001_2, .int .i64 x641002_2], .slice Ao64 y643.length co64] (by rfl) rfl rfl (by (try simp only [List.map_toArray, List.map_cons, List.map_nil]); first | done | rfl | (simp only [List.length_drop, List.length_take]; rfl)) ?_
                with_reducible refine (drive_Write.calls _ _ x641000_2 x641001_2 x641002_2 _ _ y643 t646 t649 t650 t651 _ ?side1 ?side2 ?side3 ?side4 A38.out).mono ?_
                (case side1 => repeat (first | exact (Kd.V_reads' HO_641000.out).2.2 | (with_reducible refine Kd.C_alloc ?_ _) | (with_reducible refine Kd.C_drewN ?_ _) | (with_reducible refine Kd.C_drew ?_)))
                (case side2 => exact (Kd.V_reads' HO_641000.out).2.1)
                (case side3 => repeat (first | exact (Kd.R_reads' HO645.out).2.2 | (with_reducible refine Kd.C_alloc ?_ _) | (with_reducible refine Kd.C_drewN ?_ _) | (with_reducible refine Kd.C_drew ?_)))
                (case side4 => exact (Kd.R_reads' HO645.out).2.1)
                rintro e w65 ⟨v647, rfl, ho0, hb⟩
                refine ⟨_, rfl, ?_⟩; have n0_ := zA (Kd.V_below HO_637000.out hb); have n1_ := zA (Kd.V_below HO_641000.out hb); have n2_ := zA (Kd.R_below HO645.out hb); have n3_ := zA (Kd.V_lower (Kd.V_mono (ok' := fun k_ => (P0_0_ k_ ∨ w.heap.size ≤ k_) ∧ some k_ ≠ (.slice Ao64 y643.length co64 : Value).ownBlock ∧ k_ ≠ gb636 ∧ k_ ≠ gb640 ∧ k_ ≠ gb652) ho0 (fun k_ hk_ => ⟨(.inr (Nat.le_trans (below_size (by repeat (first | (with_reducible first | exact HB.out | apply bL | apply bP | apply bD | refine bS ?_ GE636.out | refine bS ?_ GE640.out | refine bS ?_ GE652.out) | exact HB.out))) hk_)), (Kd.fresh' (Kd.R_lt HO645.out) k_ hk_), (Kd.freshB BK636.out k_ hk_), (Kd.freshB BK640.out k_ hk_), (Kd.freshB BK652.out k_ hk_)⟩)) (below_size (by repeat (first | (with_reducible first | exact HB.out | apply bL | apply bP | apply bD | refine bS ?_ GE636.out | refine bS ?_ GE640.out | refine bS ?_ GE652.out) | exact HB.out)))); have n4_ := zA (bK BK636.out hb); have n5_ := zA (bK BK640.out hb); have n6_ := zA (bK BK652.out hb); have n7_ := zA (below_step (by repeat (first | (with_reducible first | exact HB.out | apply bL | apply bP | apply bD | refine bS ?_ GE636.out | refine bS ?_ GE640.out | refine bS ?_ GE652.out) | exact HB.out)) hb); clear HO_637000; clear HO_641000; clear HO645; clear BK636; clear BK640; clear BK652; clear HB; have HO_637000 := n0_; have HO_641000 := n1_; have HO645 := n2_; have HO648 := n3_; have BK636 := n4_
                have BK640 := n5_; have BK652 := n6_; have HB := n7_; clear n0_ n1_ n2_ n3_ n4_ n5_ n6_ n7_
                (try clear hb)
                (try clear hb2)
                (try clear hk)
                (try clear hi)
                (try clear ho0)
                refine hK.out _ _ ⟨(blk_cell BK640.out 0).trans rfl, (blk_cell BK640.out 1).trans rfl, (blk_cell BK640.out 2).trans rfl⟩ (fun hHeld => ?_); clear hK K; refine norm_ (a' := ?_) ?_ ?_; rotate_left
                ·show Act.put _ (some 59) _ = _
                 simp only [Act.put, List.setIfInBounds_toArray, List.set_cons_zero, List.set_cons_succ, i64_w, i32_w]
                 rfl
                refine pure_ (i := 3) (N := some 56) (v := ?_) (a' := ?_) #[true, true, true, true, false, false, true, false, false] rfl rfl (any_of HT_.out (by kernel_rfl)) (fun _ _ _ h => h) (Or.inl ⟨by rfl, ?_⟩) ?_ ?_; rotate_left
                ·intro w'
                 go_simp
                 with_reducible rfl
                rotate_left
                ·simp only [Act.put, List.setIfInBounds_toArray, List.set_cons_zero, List.set_cons_succ, i64_w, i32_w]
                 rfl
                refine pure_ (i := 4) (N := some 60) (v := ?_) (a' := ?_) #[true, true, true, true, true, false, true, false, false] rfl rfl (any_of HT_.out (by kernel_rfl)) (fun _ _ _ h => h) (Or.inl ⟨by rfl, ?_⟩) ?_ ?_; rotate_left
                ·intro w'
                 go_simp
                 with_reducible rfl
                rotate_left
                ·simp only [Act.put, List.setIfInBounds_toArray, List.set_cons_zero, List.set_cons_succ, i64_w, i32_w]
                 rfl
                refine pure_ (i := 5) (N := some 61) (v := ?_) (a' := ?_) #[true, true, true, true, true, true, true, false, false] rfl rfl (any_of HT_.out (by kernel_rfl)) (fun _ _ _ h => h) (Or.inl ⟨by rfl, ?_⟩) ?_ ?_; rotate_left
                ·intro w'
                 go_simp
                 with_reducible rfl
                rotate_left
                ·simp only [Act.put, List.setIfInBounds_toArray, List.set_cons_zero, List.set_cons_succ, i64_w, i32_w]
                 rfl
                exact norm_ (by simp only [putAll, Act.put, List.setIfInBounds_toArray, List.set_cons_zero, List.set_cons_succ]) (hCont (.slice Ao64 y643.length co64, v647, gb652) _ ⟨hHeld, (by exact Kd.R_mono HO645.out (fun _ hk => hk.1)), HO648.out, (by exact Kd.V_mono HO_637000.out (fun _ hk => ⟨hk.1.1.1, ⟨hk.1.2, ⟨hk.1.1.2.1, ⟨hk.1.1.2.2, hk.2⟩⟩⟩⟩)), (by exact Kd.V_mono HO_641000.out (fun _ hk => ⟨hk.1.1.1, ⟨hk.1.2, ⟨hk.1.1.2.1, ⟨hk.1.1.2.2, hk.2⟩⟩⟩⟩)), (by exact BK636.out), (by exact BK640.out), (by exact BK652.out), GW652.out, GE652.out, NB636_652.out, NB652_636.out, NB640_652.out, NB652_640.out, (by repeat (first | (with_reducible first | exact HB.out | apply bL | apply bP | apply bD | refine bS ?_ GE636.out | refine bS ?_ GE640.out | refine bS ?_ GE652.out) | exact HB.out))⟩)
              ·skip
               refine box_step ?hg (N := 10) ?hd (cs := #[.slice none 0 0, .int .i64 0, .int .i64 0]) (t := 24) ?hr ?_; (case hd => rfl); (case hg => rfl); (case hr => first | (go_simp; done) | (go_simp; rfl)); intro gb652 hg w61 hbox hb; have n0_ := zA (Kd.V_below (Kd.V_elderB HO_637000.out gb652 (Nat.le_of_eq hg.symm)) hb); have n1_ := zA (Kd.V_below (Kd.V_elderB HO_641000.out gb652 (Nat.le_of_eq hg.symm)) hb); have n2_ := zA (bK BK636.out hb); have n3_ := zA (bK BK640.out hb); have n4_ := zA (below_step (by repeat (first | (with_reducible first | exact HB.out | apply bL | apply bP | apply bD | refine bS ?_ GE636.out | refine bS ?_ GE640.out) | exact HB.out)) hb); have n5_ := zA (hbox); have n6_ := zA ((by rw [hg]; exact (below_size (by repeat (first | (with_reducible first | exact HB.out | apply bL | apply bP | apply bD | refine bS ?_ GE636.out | refine bS ?_ GE640.out) | exact HB.out))) : w.heap.size ≤ gb652)); have n7_ := zA ((by rw [hg]; exact (below_size (by repeat (first | (with_reducible first | exact HB.out | apply bL | apply bP | apply bD | refine bS ?_ GE636.out | refine bS ?_ GE640.out) | exact HB.out))) : w.heap.size ≤ gb652)); have n8_ := zA ((by rw [hg]; exact Nat.ne_of_lt (blk_lt BK636.out) : gb636 ≠ gb652)); have n9_ := zA ((by rw [hg]; exact Nat.ne_of_gt (blk_lt BK636.out) : gb652 ≠ gb636)); have n10_ := zA ((by rw [hg]; exact Nat.ne_of_lt (blk_lt BK640.out) : gb640 ≠ gb652)); have n11_ := zA ((by rw [hg]; exact Nat.ne_of_gt (blk_lt BK640.out) : gb652 ≠ gb640)); clear HO_637000; clear HO_641000; clear BK636; clear BK640; clear HB; have HO_637000 := n0_
               have HO_641000 := n1_; have BK636 := n2_; have BK640 := n3_; have HB := n4_; have BK652 := n5_; have GW652 := n6_; have GE652 := n7_; have NB636_652 := n8_; have NB652_636 := n9_; have NB640_652 := n10_; have NB652_640 := n11_; clear n0_ n1_ n2_ n3_ n4_ n5_ n6_ n7_ n8_ n9_ n10_ n11_; clear hb hbox hg; refine hK.out _ _ ⟨(blk_cell BK640.out 0).trans rfl, (blk_cell BK640.out 1).trans rfl, (blk_cell BK640.out 2).trans rfl⟩ (fun hHeld => ?_); clear hK K; refine norm_ (a' := ?_) ?_ ?_; rotate_left
               ·show Act.put _ (some 10) _ = _
                simp only [Act.put, List.setIfInBounds_toArray, List.set_cons_zero, List.set_cons_succ, i64_w, i32_w]
                rfl
               refine one_ (i := 1) (N := some 58) #[true, true, false, false, false, false, true, false, false] rfl rfl (one_of HT_.out (by kernel_rfl)) (by decide) (fun K hK => ?_); refine Kd.R_make_step (Kd.int .u8) _ 5 (by rfl) (N := 58) rfl 25 _ _ rfl 512 rfl rfl Try.underlying25 (.int .u8 0) 1 info5 rfl (by decide) (by omega) 0 (ok := fun _ => True) (okp := fun _ => True) rfl (fun _ hk => hk) trivial (by omega) (by omega) (Below.refl _ _) (Nat.le_refl _) ?_; intro v644 w62 ho63 hb hg_ hnew_; clear hg_ hnew_
               (first | rw [← Ny643.out] at ho63 | (simp only [Int.reduceToNat] at ho63; rw [← Ny643.out] at ho63))
               have n0_ := zA (Kd.V_elder' HO_637000.out (Kd.R_base ho63) hb); have n1_ := zA (Kd.V_elder' HO_641000.out (Kd.R_base ho63) hb); have n2_ := zA (Kd.R_lower (Kd.R_newM (M := fun k_ => (w.heap.size ≤ k_)) ho63 (below_size (by repeat (first | (with_reducible first | exact HB.out | apply bL | apply bP | apply bD | refine bS ?_ GE636.out | refine bS ?_ GE640.out | refine bS ?_ GE652.out) | exact HB.out))) (fun k_ h_ => h_)) (below_size (by repeat (first | (with_reducible first | exact HB.out | apply bL | apply bP | apply bD | refine bS ?_ GE636.out | refine bS ?_ GE640.out | refine bS ?_ GE652.out) | exact HB.out)))); have n3_ := zA (bK BK636.out hb); have n4_ := zA (bK BK640.out hb); have n5_ := zA (bK BK652.out hb); have n6_ := zA (below_step (by repeat (first | (with_reducible first | exact HB.out | apply bL | apply bP | apply bD | refine bS ?_ GE636.out | refine bS ?_ GE640.out | refine bS ?_ GE652.out) | exact HB.out)) hb); clear HO_637000; clear HO_641000; clear BK636; clear BK640; clear BK652; clear HB; have HO_637000 := n0_; have HO_641000 := n1_; have HO645 := n2_; have BK636 := n3_; have BK640 := n4_; have BK652 := n5_; have HB := n6_; clear n0_ n1_ n2_ n3_ n4_ n5_ n6_; clear hb ho63; obtain ⟨Ao64, co64, eo64⟩ := Kd.R_slice HO645.out
               (first | subst eo64 | (injection eo64 with f1_ f2_ f3_; have f4_ := f1_.symm; have f5_ := f3_.symm; clear f1_ f2_ f3_; subst f4_; subst f5_))
               refine hK.out _ _ ⟨(blk_cell BK640.out 0).trans rfl, (blk_cell BK640.out 1).trans rfl, (blk_cell BK640.out 2).trans rfl⟩ (fun hHeld => ?_); clear hK K; refine norm_ (a' := ?_) ?_ ?_; rotate_left
               ·show Act.put _ (some 58) _ = _
                simp only [Act.put, List.setIfInBounds_toArray, List.set_cons_zero, List.set_cons_succ, i64_w, i32_w]
                rfl
               refine one_ (i := 2) (N := some 59) #[true, true, true, false, false, false, true, false, false] rfl rfl (one_of HT_.out (by kernel_rfl)) (by decide) (fun K hK => ?_); refine goes_ Try.func17 (by kernel_rfl) rfl #[.agg #[.slice Ao59 x641000_2.length co59, .int .i64 x641001_2, .int .i64 x641002_2], .slice Ao64 y643.length co64] (by rfl) rfl rfl (by (try simp only [List.map_toArray, List.map_cons, List.map_nil]); first | done | rfl | (simp only [List.length_drop, List.length_take]; rfl)) ?_
               with_reducible refine (drive_Write.calls _ _ x641000_2 x641001_2 x641002_2 _ _ y643 t646 t649 t650 t651 _ ?side1 ?side2 ?side3 ?side4 A38.out).mono ?_
               (case side1 => repeat (first | exact (Kd.V_reads' HO_641000.out).2.2 | (with_reducible refine Kd.C_alloc ?_ _) | (with_reducible refine Kd.C_drewN ?_ _) | (with_reducible refine Kd.C_drew ?_)))
               (case side2 => exact (Kd.V_reads' HO_641000.out).2.1)
               (case side3 => repeat (first | exact (Kd.R_reads' HO645.out).2.2 | (with_reducible refine Kd.C_alloc ?_ _) | (with_reducible refine Kd.C_drewN ?_ _) | (with_reducible refine Kd.C_drew ?_)))
               (case side4 => exact (Kd.R_reads' HO645.out).2.1)
               rintro e w65 ⟨v647, rfl, ho0, hb⟩
               refine ⟨_, rfl, ?_⟩; have n0_ := zA (Kd.V_below HO_637000.out hb); have n1_ := zA (Kd.V_below HO_641000.out hb); have n2_ := zA (Kd.R_below HO645.out hb); have n3_ := zA (Kd.V_lower (Kd.V_mono (ok' := fun k_ => (P0_0_ k_ ∨ w.heap.size ≤ k_) ∧ some k_ ≠ (.slice Ao64 y643.length co64 : Value).ownBlock ∧ k_ ≠ gb636 ∧ k_ ≠ gb640 ∧ k_ ≠ gb652) ho0 (fun k_ hk_ => ⟨(.inr (Nat.le_trans (below_size (by repeat (first | (with_reducible first | exact HB.out | apply bL | apply bP | apply bD | refine bS ?_ GE636.out | refine bS ?_ GE640.out | refine bS ?_ GE652.out) | exact HB.out))) hk_)), (Kd.fresh' (Kd.R_lt HO645.out) k_ hk_), (Kd.freshB BK636.out k_ hk_), (Kd.freshB BK640.out k_ hk_), (Kd.freshB BK652.out k_ hk_)⟩)) (below_size (by repeat (first | (with_reducible first | exact HB.out | apply bL | apply bP | apply bD | refine bS ?_ GE636.out | refine bS ?_ GE640.out | refine bS ?_ GE652.out) | exact HB.out)))); have n4_ := zA (bK BK636.out hb); have n5_ := zA (bK BK640.out hb); have n6_ := zA (bK BK652.out hb); have n7_ := zA (below_step (by repeat (first | (with_reducible first | exact HB.out | apply bL | apply bP | apply bD | refine bS ?_ GE636.out | refine bS ?_ GE640.out | refine bS ?_ GE652.out) | exact HB.out)) hb); clear HO_637000; clear HO_641000; clear HO645; clear BK636; clear BK640; clear BK652; clear HB; have HO_637000 := n0_; have HO_641000 := n1_; have HO645 := n2_; have HO648 := n3_; have BK636 := n4_
               have BK640 := n5_; have BK652 := n6_; have HB := n7_; clear n0_ n1_ n2_ n3_ n4_ n5_ n6_ n7_
               (try clear hb)
               (try clear hb2)
               (try clear hk)
               (try clear hi)
               (try clear ho0)
               refine hK.out _ _ ⟨(blk_cell BK640.out 0).trans rfl, (blk_cell BK640.out 1).trans rfl, (blk_cell BK640.out 2).trans rfl⟩ (fun hHeld => ?_); clear hK K; refine norm_ (a' := ?_) ?_ ?_; rotate_left
               ·show Act.put _ (some 59) _ = _
                simp only [Act.put, List.setIfInBounds_toArray, List.set_cons_zero, List.set_cons_succ, i64_w, i32_w]
                rfl
               refine pure_ (i := 3) (N := some 56) (v := ?_) (a' := ?_) #[true, true, true, true, false, false, true, false, false] rfl rfl (any_of HT_.out (by kernel_rfl)) (fun _ _ _ h => h) (Or.inl ⟨by rfl, ?_⟩) ?_ ?_; rotate_left
               ·intro w'
                go_simp
                with_reducible rfl
               rotate_left
               ·simp only [Act.put, List.setIfInBounds_toArray, List.set_cons_zero, List.set_cons_succ, i64_w, i32_w]
                rfl
               refine pure_ (i := 4) (N := some 60) (v := ?_) (a' := ?_) #[true, true, true, true, true, false, true, false, false] rfl rfl (any_of HT_.out (by kernel_rfl)) (fun _ _ _ h => h) (Or.inl ⟨by rfl, ?_⟩) ?_ ?_; rotate_left
               ·intro w'
                go_simp
                with_reducible rfl
               rotate_left
               ·simp only [Act.put, List.setIfInBounds_toArray, List.set_cons_zero, List.set_cons_succ, i64_w, i32_w]
                rfl
               refine pure_ (i := 5) (N := some 61) (v := ?_) (a' := ?_) #[true, true, true, true, true, true, true, false, false] rfl rfl (any_of HT_.out (by kernel_rfl)) (fun _ _ _ h => h) (Or.inl ⟨by rfl, ?_⟩) ?_ ?_; rotate_left
               ·intro w'
                go_simp
                with_reducible rfl
               rotate_left
               ·simp only [Act.put, List.setIfInBounds_toArray, List.set_cons_zero, List.set_cons_succ, i64_w, i32_w]
                rfl
               exact norm_ (by simp only [putAll, Act.put, List.setIfInBounds_toArray, List.set_cons_zero, List.set_cons_succ]) (hCont (.slice Ao64 y643.length co64, v647, gb652) _ ⟨hHeld, (by exact Kd.R_mono HO645.out (fun _ hk => hk.1)), HO648.out, (by exact Kd.V_mono HO_637000.out (fun _ hk => ⟨hk.1.1.1, ⟨hk.2, ⟨hk.1.1.2.1, ⟨hk.1.1.2.2, hk.1.2⟩⟩⟩⟩)), (by exact Kd.V_mono HO_641000.out (fun _ hk => ⟨hk.1.1.1, ⟨hk.2, ⟨hk.1.1.2.1, ⟨hk.1.1.2.2, hk.1.2⟩⟩⟩⟩)), (by exact BK636.out), (by exact BK640.out), (by exact BK652.out), GW652.out, GE652.out, NB636_652.out, NB652_636.out, NB640_652.out, NB652_640.out, (by repeat (first | (with_reducible first | exact HB.out | apply bL | apply bP | apply bD | refine bS ?_ GE636.out | refine bS ?_ GE640.out | refine bS ?_ GE652.out) | exact HB.out))⟩)
             rintro ⟨v644, v647, gb652⟩ w66 ⟨hS_, h0_, h1_, h2_, h3_, h4_, h5_, h6_, h7_, h8_, h9_, h10_, h11_, h12_, h13_⟩
             have n0_ : Aside0 (Kd.R (Kd.int .u8) 5 w66 w.heap.size (fun k_ => (w.heap.size ≤ k_)) v644 y643) := ⟨h0_⟩; have n1_ : Aside0 (Kd.V k41 41 w66 w.heap.size (fun k_ => (P0_0_ k_ ∨ w.heap.size ≤ k_) ∧ some k_ ≠ (v644 : Value).ownBlock ∧ k_ ≠ gb636 ∧ k_ ≠ gb640 ∧ k_ ≠ gb652) v647 t646) := ⟨h1_⟩; have n2_ : Aside0 (Kd.V k41 41 w66 w.heap.size (fun k_ => (P0_0_ k_ ∨ w.heap.size ≤ k_) ∧ some k_ ≠ (v644 : Value).ownBlock ∧ k_ ≠ gb636 ∧ k_ ≠ gb640 ∧ k_ ≠ gb652) (.slice (some ad641) l0_0.length c0_0) l0_0) := ⟨h2_⟩; have n3_ : Aside0 (Kd.V k41 41 w66 w.heap.size (fun k_ => (P0_0_ k_ ∨ w.heap.size ≤ k_) ∧ some k_ ≠ (v644 : Value).ownBlock ∧ k_ ≠ gb636 ∧ k_ ≠ gb640 ∧ k_ ≠ gb652) (.slice Ao59 x641000_2.length co59) x641000_2) := ⟨h3_⟩; have n4_ : Aside0 (w66.heap[gb636]? = some (.cells #[.slice (some ad641) l0_0.length c0_0, .int .i64 a0_1, .int .i64 a0_2] 24 (0, 0))) := ⟨h4_⟩; have n5_ : Aside0 (w66.heap[gb640]? = some (.cells #[.slice Ao59 x641000_2.length co59, .int .i64 x641001_2, .int .i64 x641002_2] 24 (0, 0))) := ⟨h5_⟩; have n6_ : Aside0 (w66.heap[gb652]? = some (.cells #[.slice none 0 0, .int .i64 0, .int .i64 0] 24 (0, 0))) := ⟨h6_⟩; have n7_ : Aside0 (w.heap.size ≤ gb652) := ⟨h7_⟩; have n8_ : Aside0 (w.heap.size ≤ gb652) := ⟨h8_⟩; have n9_ : Aside0 (gb636 ≠ gb652) := ⟨h9_⟩; have n10_ : Aside0 (gb652 ≠ gb636) := ⟨h10_⟩; have n11_ : Aside0 (gb640 ≠ gb652) := ⟨h11_⟩; have n12_ : Aside0 (gb652 ≠ gb640) := ⟨h12_⟩; have n13_ : Aside0 (Below w.heap.size w w66) := ⟨h13_⟩; clear HO_637000; clear HO_641000; clear BK636; clear BK640; clear HB; clear h0_ h1_ h2_ h3_ h4_ h5_ h6_ h7_ h8_ h9_ h10_ h11_ h12_ h13_; have HO645 := n0_; have HO648 := n1_; have HO_637000 := n2_; have HO_641000 := n3_; have BK636 := n4_; have BK640 := n5_; have BK652 := n6_; have GW652 := n7_; have GE652 := n8_; have NB636_652 := n9_; have NB652_636 := n10_; have NB640_652 := n11_; have NB652_640 := n12_; have HB := n13_; clear n0_ n1_ n2_ n3_ n4_ n5_ n6_ n7_ n8_ n9_ n10_ n11_ n12_ n13_; have hHeld : w66.cell? ⟨gb640, 0, none⟩ = some (.slice Ao59 x641000_2.length co59) ∧ w66.cell? ⟨gb640, 1, none⟩ = some (.int .i64 x641001_2) ∧ w66.cell? ⟨gb640, 2, none⟩ = some (.int .i64 x641002_2) := hS_; obtain ⟨Ao67, co67, eo67⟩ := Kd.V_slice HO648.out
             (first | subst eo67 | (injection eo67 with f1_ f2_ f3_; have f4_ := f1_.symm; have f5_ := f3_.symm; clear f1_ f2_ f3_; subst f4_; subst f5_))
             refine norm_ (a' := ?_) ?_ ?_; rotate_left
             ·simp only [putAll, Act.put, List.setIfInBounds_toArray, List.set_cons_zero, List.set_cons_succ]
              rfl
             refine one_ (i := 7) (N := none) #[true, true, true, true, true, true, true, true, false] rfl rfl (one_of HT_.out (by kernel_rfl)) (by decide) (fun K hK => ?_); have hs68 : w66.cell? ⟨gb652, 0, none⟩ = some (.slice none 0 0) := (blk_cell BK652.out 0).trans rfl; have hfs68 := blk_frozen BK652.out 0; have hns68_0 := NB636_652.out; have hns68_1 := NB640_652.out; have hms68_0 := NB652_636.out; have hms68_1 := NB652_640.out; have hs69 : w66.cell? ⟨gb652, 1, none⟩ = some (.int .i64 0) := (blk_cell BK652.out 1).trans rfl; have hfs69 := blk_frozen BK652.out 1; have hns69_0 := NB636_652.out; have hns69_1 := NB640_652.out; have hms69_0 := NB652_636.out; have hms69_1 := NB652_640.out; have hs70 : w66.cell? ⟨gb652, 2, none⟩ = some (.int .i64 0) := (blk_cell BK652.out 2).trans rfl; have hfs70 := blk_frozen BK652.out 2; have hns70_0 := NB636_652.out; have hns70_1 := NB640_652.out; have hms70_0 := NB652_636.out; have hms70_1 := NB652_640.out; refine skip_ (w1 := ?_) (by rfl) rfl ?_ ?_; rotate_left
             ·go_simp
              rfl
             refine hK.out _ _ ⟨((cell_far (p := ⟨gb652, _, none⟩) NB640_652.out _).trans (((cell_far (p := ⟨gb652, _, none⟩) NB640_652.out _).trans (((cell_far (p := ⟨gb652, _, none⟩) NB640_652.out _).trans (hHeld.1)))))), ((cell_far (p := ⟨gb652, _, none⟩) NB640_652.out _).trans (((cell_far (p := ⟨gb652, _, none⟩) NB640_652.out _).trans (((cell_far (p := ⟨gb652, _, none⟩) NB640_652.out _).trans (hHeld.2.1)))))), ((cell_far (p := ⟨gb652, _, none⟩) NB640_652.out _).trans (((cell_far (p := ⟨gb652, _, none⟩) NB640_652.out _).trans (((cell_far (p := ⟨gb652, _, none⟩) NB640_652.out _).trans (hHeld.2.2))))))⟩ (fun hHeld => ?_); clear hK K; refine pure_ (i := 8) (N := some 11) (v := ?_) (a' := ?_) #[true, true, true, true, true, true, true, true, true] rfl rfl (any_of HT_.out (by kernel_rfl)) (fun _ _ _ h => h) (Or.inl ⟨by rfl, ?_⟩) ?_ ?_; rotate_left
             ·intro w'
              go_simp
              with_reducible rfl
             rotate_left
             ·simp only [Act.put, List.setIfInBounds_toArray, List.set_cons_zero, List.set_cons_succ, i64_w, i32_w]
              rfl
             refine done_ (done_of HT_.out (by kernel_rfl)) ?_; have hnb71 := NB652_636.out; have hnc71 := NB636_652.out; have hnb72 := NB652_640.out; have hnc72 := NB640_652.out; have hcz73_0 : w66.cell? ⟨gb652, 0, none⟩ = some (.slice none 0 0) := (blk_cell BK652.out 0).trans rfl; have hcz73_1 : w66.cell? ⟨gb652, 1, none⟩ = some (.int .i64 0) := (blk_cell BK652.out 1).trans rfl; have hcz73_2 : w66.cell? ⟨gb652, 2, none⟩ = some (.int .i64 0) := (blk_cell BK652.out 2).trans rfl; have hfz73_0 := blk_frozen BK652.out 0; have hfz73_1 := blk_frozen BK652.out 1; have hfz73_2 := blk_frozen BK652.out 2; have hnb74 := NB640_636.out; have hnc74 := NB636_640.out; have hcz75_0 : w66.cell? ⟨gb640, 0, none⟩ = some (.slice Ao59 x641000_2.length co59) := (blk_cell BK640.out 0).trans rfl; have hcz75_1 : w66.cell? ⟨gb640, 1, none⟩ = some (.int .i64 x641001_2) := (blk_cell BK640.out 1).trans rfl; have hcz75_2 : w66.cell? ⟨gb640, 2, none⟩ = some (.int .i64 x641002_2) := (blk_cell BK640.out 2).trans rfl; have hfz75_0 := blk_frozen BK640.out 0; have hfz75_1 := blk_frozen BK640.out 1; have hfz75_2 := blk_frozen BK640.out 2
             try go_wp2
             go_roundg k2
             case measure => have := HJ4.out; have := HK2.out; omega
             case rel => exact ⟨(wrap64 (x9_2 + 1)), (t646), (t649), (t650), (.slice Ao67 t646.length co67), (by first | rfl | (simp; done) | (simp [*]; done)), H', ⟨by have := HJ4.out; have := HK2.out; omega⟩, ⟨by exact Kd.V_mono (Kd.V_far (p := ⟨gb640, 2, none⟩) (Kd.V_far (p := ⟨gb640, 1, none⟩) (Kd.V_far (p := ⟨gb640, 0, none⟩) (Kd.V_far (p := ⟨gb652, 2, none⟩) (Kd.V_far (p := ⟨gb652, 1, none⟩) (Kd.V_far (p := ⟨gb652, 0, none⟩) (Kd.V_mono (Kd.V_mono HO_637000.out (fun k_ hk => (⟨hk, hk.2.2.2.2⟩ : _ ∧ k_ ≠ gb652))) (fun k_ hk => (⟨hk, hk.1.2.2.2.1⟩ : _ ∧ k_ ≠ gb640))) (fun _ hk => hk.1.2) (.slice Ao67 t646.length co67)) (fun _ hk => hk.1.2) (.int .i64 t649)) (fun _ hk => hk.1.2) (.int .i64 t650)) (fun _ hk => hk.2) (.slice Ao67 t646.length co67)) (fun _ hk => hk.2) (.int .i64 t649)) (fun _ hk => hk.2) (.int .i64 t650)) (fun _ hk => ⟨hk.1.1.1, ⟨hk.1.1.2.2.1, hk.1.1.2.2.2.1⟩⟩)⟩, ⟨by exact Kd.V_mono (Kd.V_far (p := ⟨gb640, 2, none⟩) (Kd.V_far (p := ⟨gb640, 1, none⟩) (Kd.V_far (p := ⟨gb640, 0, none⟩) (Kd.V_far (p := ⟨gb652, 2, none⟩) (Kd.V_far (p := ⟨gb652, 1, none⟩) (Kd.V_far (p := ⟨gb652, 0, none⟩) (Kd.V_mono (Kd.V_mono HO648.out (fun k_ hk => (⟨hk, hk.2.2.2.2⟩ : _ ∧ k_ ≠ gb652))) (fun k_ hk => (⟨hk, hk.1.2.2.2.1⟩ : _ ∧ k_ ≠ gb640))) (fun _ hk => hk.1.2) (.slice Ao67 t646.length co67)) (fun _ hk => hk.1.2) (.int .i64 t649)) (fun _ hk => hk.1.2) (.int .i64 t650)) (fun _ hk => hk.2) (.slice Ao67 t646.length co67)) (fun _ hk => hk.2) (.int .i64 t649)) (fun _ hk => hk.2) (.int .i64 t650)) (fun _ hk => ⟨hk.1.1.1, ⟨hk.1.1.2.2.1, hk.1.1.2.2.2.1⟩⟩)⟩, ⟨by refine blk_far ?_ NB636_640.out _; refine blk_far ?_ NB636_640.out _; refine blk_far ?_ NB636_640.out _; refine blk_far ?_ NB636_652.out _; refine blk_far ?_ NB636_652.out _; refine blk_far ?_ NB636_652.out _; exact BK636.out⟩, ⟨by refine blk_put (cs := #[.slice Ao67 t646.length co67, .int .i64 t649, .int .i64 x641002_2]) ?_ 2 _ rfl; refine blk_put (cs := #[.slice Ao67 t646.length co67, .int .i64 x641001_2, .int .i64 x641002_2]) ?_ 1 _ rfl; refine blk_put (cs := #[.slice Ao59 x641000_2.length co59, .int .i64 x641001_2, .int .i64 x641002_2]) ?_ 0 _ rfl; refine blk_far ?_ NB640_652.out _; refine blk_far ?_ NB640_652.out _; refine blk_far ?_ NB640_652.out _; exact BK640.out⟩, ⟨by repeat (first | (with_reducible first | exact HB.out | apply bL | apply bP | apply bD | refine bS ?_ GE636.out | refine bS ?_ GE640.out | refine bS ?_ GE652.out) | exact HB.out)⟩⟩
            ·rw [if_neg c58] at H
             exact absurd H (by simp)
         ·rw [if_neg c37] at H
          exact absurd H (by simp)
        ·rw [if_neg c36] at H
         have c36b0 : decide (x9_2 < a1) = false := decide_eq_false c36; clear c36; replace H := Option.bind_eq_some_iff.mp H; obtain ⟨t642, A760, H⟩ := H; replace H : (if t642 = true then (if x641001_2 = a0_1 then (some ((x641000_2.length : Int) == (l0_0.length : Int))) else (none)) else (none)) = some r := H; have A76 := zA A760; clear A760
         by_cases c77 : t642 = true
         ·subst c77
          have H1 : (if x641001_2 = a0_1 then (some ((x641000_2.length : Int) == (l0_0.length : Int))) else (none)) = some r := by rw [if_pos rfl] at H; exact H
          clear H; have H := H1; clear H1
          by_cases c78 : x641001_2 = a0_1
          ·rw [if_pos c78] at H
           have c78b0 : (x641001_2 == a0_1) = true := beq_iff_eq.mpr c78; have c78b1 : (x641001_2 != a0_1) = false := bne_eq_false_iff_eq.mpr c78; clear c78; obtain rfl := Option.some.inj H; have hnb79 := NB640_636.out; have hnc79 := NB636_640.out; have hcz80_0 : wr.cell? ⟨gb640, 0, none⟩ = some (u641000) := (blk_cell BK640.out 0).trans rfl; have hcz80_1 : wr.cell? ⟨gb640, 1, none⟩ = some (.int .i64 x641001_2) := (blk_cell BK640.out 1).trans rfl; have hcz80_2 : wr.cell? ⟨gb640, 2, none⟩ = some (.int .i64 x641002_2) := (blk_cell BK640.out 2).trans rfl; have hfz80_0 := blk_frozen BK640.out 0; have hfz80_1 := blk_frozen BK640.out 1; have hfz80_2 := blk_frozen BK640.out 2; obtain ⟨Ao81, co81, eo81⟩ := Kd.V_slice HO_641000.out; subst eo81
           go_wp2_with (first | ((with_reducible refine gate_callee (f := 27) rfl ?_); refine goesL_ (some 78) rfl rfl Try.func27 (by kernel_rfl) rfl #[.agg #[.slice Ao81 x641000_2.length co81, .int .i64 x641001_2, .int .i64 x641002_2]] rfl (by (try simp only [List.map_toArray, List.map_cons, List.map_nil]); first | done | rfl | (simp only [List.length_drop, List.length_take]; rfl)) ?_; (with_reducible refine (drive_May.calls _ _ x641000_2 x641001_2 x641002_2 true _ ?side1 ?side2 A76.out).mono ?_); (case side1 => repeat (first | exact (Kd.V_reads' HO_641000.out).2.2 | (with_reducible refine Kd.C_alloc ?_ _) | (with_reducible refine Kd.C_drewN ?_ _) | (with_reducible refine Kd.C_drew ?_))); (case side2 => exact (Kd.V_reads' HO_641000.out).2.1); rintro e w82 ⟨rfl, hb⟩; refine ⟨_, rfl, ?_⟩; have n0_ := zA (Kd.V_below HO_637000.out hb); have n1_ := zA (Kd.V_below HO_641000.out hb); have n2_ := zA (bK BK636.out hb); have n3_ := zA (bK BK640.out hb); have n4_ := zA (below_step (by repeat (first | (with_reducible first | exact HB.out | apply bL | apply bP | apply bD | refine bS ?_ GE636.out | refine bS ?_ GE640.out) | exact HB.out)) hb); clear HO_637000; clear HO_641000; clear BK636; clear BK640; clear HB; have HO_637000 := n0_; have HO_641000 := n1_; have BK636 := n2_; have BK640 := n3_; have HB := n4_; clear n0_ n1_ n2_ n3_ n4_; (try clear hb); (try clear hb2); (try clear hk); (try clear hi); have hcz83_0 : w82.cell? ⟨gb640, 0, none⟩ = some (.slice Ao81 x641000_2.length co81) := (blk_cell BK640.out 0).trans rfl; have hcz83_1 : w82.cell? ⟨gb640, 1, none⟩ = some (.int .i64 x641001_2) := (blk_cell BK640.out 1).trans rfl; have hcz83_2 : w82.cell? ⟨gb640, 2, none⟩ = some (.int .i64 x641002_2) := (blk_cell BK640.out 2).trans rfl; have hfz83_0 := blk_frozen BK640.out 0; have hfz83_1 := blk_frozen BK640.out 1; have hfz83_2 := blk_frozen BK640.out 2; have hcz84_0 : w82.cell? ⟨gb636, 0, none⟩ = some (.slice (some ad641) l0_0.length c0_0) := (blk_cell BK636.out 0).trans rfl; have hcz84_1 : w82.cell? ⟨gb636, 1, none⟩ = some (.int .i64 a0_1) := (blk_cell BK636.out 1).trans rfl; have hcz84_2 : w82.cell? ⟨gb636, 2, none⟩ = some (.int .i64 a0_2) := (blk_cell BK636.out 2).trans rfl; have hfz84_0 := blk_frozen BK636.out 0; have hfz84_1 := blk_frozen BK636.out 1; have hfz84_2 := blk_frozen BK636.out 2))
           go_ret
           exact ⟨by first | rfl | (simp [errW_none, errW_some] <;> rfl) | (simp [*, errW_none, errW_some] <;> rfl), by repeat (first | (with_reducible first | exact HB.out | apply bL | apply bP | apply bD | refine bS ?_ GE636.out | refine bS ?_ GE640.out) | exact HB.out)⟩
          ·rw [if_neg c78] at H
           exact absurd H (by simp)
         ·replace c77 := Bool.eq_false_iff.mpr c77
          subst c77
          have H1 : (none) = some r := by rw [if_neg (show ¬ (false = true) by decide)] at H; exact H
          clear H; have H := H1; clear H1; exact absurd H (by simp)
     ·rw [if_neg c29] at H
      exact absurd H (by simp)
    ·rw [if_neg c28] at H
     exact absurd H (by simp)

end Go.Proofs.Ytpbfeegfkiegeaa.M
