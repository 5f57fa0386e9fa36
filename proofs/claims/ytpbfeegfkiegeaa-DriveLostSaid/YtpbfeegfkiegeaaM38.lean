/- Part of a claim: what some functions of the program compute, each with its contract; no condition of its own. Written by a program of this workplace (gen.py, over the print of the kit) and by hand. -/
import Derived.Test.YtpbfeegfkiegeaaM0
import Derived.Test.YtpbfeegfkiegeaaM5
import Derived.Test.YtpbfeegfkiegeaaM9
import Derived.Test.YtpbfeegfkiegeaaM11
import Derived.Test.YtpbfeegfkiegeaaM12
import Derived.Test.YtpbfeegfkiegeaaM14
import Derived.Test.YtpbfeegfkiegeaaM19
import Derived.Test.YtpbfeegfkiegeaaM21
namespace Go.Proofs.Ytpbfeegfkiegeaa.M
open Go.RowKit Go.Proofs.YtpbfeegfkiegeaaW.PrintWords Go.Proofs.YtpbfeegfkiegeaaW.PrintLast Go.Proofs.YtpbfeegfkiegeaaW.PrintMore
attribute [local go_sem] max2_int min2_int max_two min_two max_three min_three max_four min_four   -- for this text's walks alone
set_option linter.unusedVariables false
set_option linter.unusedSimpArgs false

/-! ### reelkeeperlaw13_DriveLost: function 6 -/
mutual
def reelkeeperlaw13_DriveLost.j0 : Nat → List Int → Int → Bool → Bool → List (S41) → Int → Int → Option (Bool)
  | 0, _, _, _, _, _, _, _ => none
  | k + 1, x1, x2, x7, x42, x550000, x550001, x550002 => if x42 = true then (some x7) else ((drive_Write.f x550000 x550001 x550002 x1).bind fun bt553 => ((drive_Mark.f x550000 x550001 x550002).bind fun bt560 => (if bt560.2.2.2 = 0 then ((drive_May.f bt560.1 bt560.2.1 bt560.2.2.1).bind fun t567 => (if t567 = true then (if (bt560.1.length : Int) = (x550000.length : Int) then (if 0 ≤ x550001 then (if x550001 < (bt560.1.length : Int) then (if (((rd_T41 bt560.1 x550001).f1).length : Int) = x550002 then (if ((rd_T41 bt560.1 x550001).f2 = true) then (reelkeeperlaw13_DriveLost.j1 k x2 bt553.2.2.2 (bt560.2.2.1 != x550002) x550000 x550001 x550002 bt553.1 bt553.2.1 bt553.2.2.1 bt560.1 bt560.2.1 bt560.2.2.1) else (reelkeeperlaw13_DriveLost.j1 k x2 bt553.2.2.2 true x550000 x550001 x550002 bt553.1 bt553.2.1 bt553.2.2.1 bt560.1 bt560.2.1 bt560.2.2.1)) else (reelkeeperlaw13_DriveLost.j1 k x2 bt553.2.2.2 true x550000 x550001 x550002 bt553.1 bt553.2.1 bt553.2.2.1 bt560.1 bt560.2.1 bt560.2.2.1)) else (none)) else (none)) else (reelkeeperlaw13_DriveLost.j1 k x2 bt553.2.2.2 true x550000 x550001 x550002 bt553.1 bt553.2.1 bt553.2.2.1 bt560.1 bt560.2.1 bt560.2.2.1)) else (reelkeeperlaw13_DriveLost.j1 k x2 bt553.2.2.2 true x550000 x550001 x550002 bt553.1 bt553.2.1 bt553.2.2.1 bt560.1 bt560.2.1 bt560.2.2.1))) else (reelkeeperlaw13_DriveLost.j1 k x2 bt553.2.2.2 true x550000 x550001 x550002 bt553.1 bt553.2.1 bt553.2.2.1 bt560.1 bt560.2.1 bt560.2.2.1))))
def reelkeeperlaw13_DriveLost.j1 : Nat → Int → Int → Bool → List (S41) → Int → Int → List (S41) → Int → Int → List (S41) → Int → Int → Option (Bool)
  | 0, _, _, _, _, _, _, _, _, _, _, _, _ => none
  | k + 1, x2, x10, x100, x550000, x550001, x550002, x560000, x560001, x560002, x567000, x567001, x567002 => if x100 = true then (none) else (if x10 = 0 then (if x2 < 0 then (reelkeeperlaw13_DriveLost.j2 k x2 x10 true x550000 x550001 x550002 x560000 x560001 x560002 x567000 x567001 x567002) else (reelkeeperlaw13_DriveLost.j2 k x2 x10 (decide (x2 ≥ x550002)) x550000 x550001 x550002 x560000 x560001 x560002 x567000 x567001 x567002)) else (reelkeeperlaw13_DriveLost.j2 k x2 x10 true x550000 x550001 x550002 x560000 x560001 x560002 x567000 x567001 x567002))
def reelkeeperlaw13_DriveLost.j2 : Nat → Int → Int → Bool → List (S41) → Int → Int → List (S41) → Int → Int → List (S41) → Int → Int → Option (Bool)
  | 0, _, _, _, _, _, _, _, _, _, _, _, _ => none
  | k + 1, x2, x10, x112, x550000, x550001, x550002, x560000, x560001, x560002, x567000, x567001, x567002 => if x112 = true then (if x10 = 0 then (if (x560000.length : Int) = (x550000.length : Int) then (if 0 ≤ x550001 then (if x550001 < (x560000.length : Int) then (some ((((rd_T41 x560000 x550001).f1).length : Int) == (wrap64 (x550002 + 1)))) else (none)) else (none)) else (none)) else (some true)) else (if 0 ≤ x550001 then (if x550001 < (x550000.length : Int) then ((tape_Read.f ((rd_T41 x550000 x550001).f0) ((rd_T41 x550000 x550001).f1) ((rd_T41 x550000 x550001).f2) x2).bind fun bt572 => (if x550001 < (x560000.length : Int) then ((tape_Read.f ((rd_T41 x560000 x550001).f0) ((rd_T41 x560000 x550001).f1) ((rd_T41 x560000 x550001).f2) x2).bind fun bt577 => (if x550001 < (x567000.length : Int) then ((tape_Read.f ((rd_T41 x567000 x550001).f0) ((rd_T41 x567000 x550001).f1) ((rd_T41 x567000 x550001).f2) x2).bind fun bt582 => (if (strOfNums bt572.1).toList = (strOfNums bt577.1).toList then (some ((strOfNums bt572.1).toList == (strOfNums bt582.1).toList)) else (none))) else (none))) else (none))) else (none)) else (none))
end
def reelkeeperlaw13_DriveLost.f (k : Nat) (l0_0 : List (S41)) (a0_1 : Int) (a0_2 : Int) (l1 : List Int) (a2 : Int) : Option (Bool) := (reelkeeperlaw13_awake.f).bind fun t550 => ((reelkeeperlaw13_Few.f k l0_0 a0_1 a0_2).bind fun t551 => (if t550 = true then (if t551 = true then (if (l1.length : Int) > 12000 then (reelkeeperlaw13_DriveLost.j0 k l1 a2 t550 true l0_0 a0_1 a0_2) else ((drive_May.f l0_0 a0_1 a0_2).bind fun t552 => (if t552 = true then (reelkeeperlaw13_DriveLost.j0 k l1 a2 t550 (decide (a0_1 < 0)) l0_0 a0_1 a0_2) else (reelkeeperlaw13_DriveLost.j0 k l1 a2 t550 true l0_0 a0_1 a0_2)))) else (reelkeeperlaw13_DriveLost.j0 k l1 a2 t550 true l0_0 a0_1 a0_2)) else (reelkeeperlaw13_DriveLost.j0 k l1 a2 t550 true l0_0 a0_1 a0_2)))
theorem reelkeeperlaw13_DriveLost.mono_l : ∀ k, (∀ y0 y1 y2 y3 y4 y5 y6, LeO (reelkeeperlaw13_DriveLost.j0 k y0 y1 y2 y3 y4 y5 y6) (reelkeeperlaw13_DriveLost.j0 (k + 1) y0 y1 y2 y3 y4 y5 y6)) ∧ (∀ y0 y1 y2 y3 y4 y5 y6 y7 y8 y9 y10 y11, LeO (reelkeeperlaw13_DriveLost.j1 k y0 y1 y2 y3 y4 y5 y6 y7 y8 y9 y10 y11) (reelkeeperlaw13_DriveLost.j1 (k + 1) y0 y1 y2 y3 y4 y5 y6 y7 y8 y9 y10 y11)) ∧ (∀ y0 y1 y2 y3 y4 y5 y6 y7 y8 y9 y10 y11, LeO (reelkeeperlaw13_DriveLost.j2 k y0 y1 y2 y3 y4 y5 y6 y7 y8 y9 y10 y11) (reelkeeperlaw13_DriveLost.j2 (k + 1) y0 y1 y2 y3 y4 y5 y6 y7 y8 y9 y10 y11))
  | 0 => ⟨fun _ _ _ _ _ _ _ r h => by simp [reelkeeperlaw13_DriveLost.j0] at h, fun _ _ _ _ _ _ _ _ _ _ _ _ r h => by simp [reelkeeperlaw13_DriveLost.j1] at h, fun _ _ _ _ _ _ _ _ _ _ _ _ r h => by simp [reelkeeperlaw13_DriveLost.j2] at h⟩
  | k + 1 => by
    obtain ⟨ih0, ih1, ih2⟩ := reelkeeperlaw13_DriveLost.mono_l k
    refine ⟨?_, ?_, ?_⟩
    · intro y0 y1 y2 y3 y4 y5 y6
      unfold reelkeeperlaw13_DriveLost.j0
      repeat' first
      | (with_reducible exact ih0 _ _ _ _ _ _ _)
      | (with_reducible exact ih1 _ _ _ _ _ _ _ _ _ _ _ _)
      | (with_reducible exact ih2 _ _ _ _ _ _ _ _ _ _ _ _)
      | (with_reducible exact reelkeeperlaw13_Few.mono _ _ _ _)
      | (with_reducible exact LeO.refl _)
      | (with_reducible exact LeO.none _)
      | (with_reducible refine LeO.ite ?_ ?_)
      | (with_reducible refine LeO.bind ?_ (fun _ => ?_))
      | exact ih0 _ _ _ _ _ _ _
      | exact ih1 _ _ _ _ _ _ _ _ _ _ _ _
      | exact ih2 _ _ _ _ _ _ _ _ _ _ _ _
      | exact reelkeeperlaw13_Few.mono _ _ _ _
      | exact LeO.none _
      | refine LeO.ite ?_ ?_
      | refine LeO.bind ?_ (fun _ => ?_)
    · intro y0 y1 y2 y3 y4 y5 y6 y7 y8 y9 y10 y11
      unfold reelkeeperlaw13_DriveLost.j1
      repeat' first
      | (with_reducible exact ih0 _ _ _ _ _ _ _)
      | (with_reducible exact ih1 _ _ _ _ _ _ _ _ _ _ _ _)
      | (with_reducible exact ih2 _ _ _ _ _ _ _ _ _ _ _ _)
      | (with_reducible exact reelkeeperlaw13_Few.mono _ _ _ _)
      | (with_reducible exact LeO.refl _)
      | (with_reducible exact LeO.none _)
      | (with_reducible refine LeO.ite ?_ ?_)
      | (with_reducible refine LeO.bind ?_ (fun _ => ?_))
      | exact ih0 _ _ _ _ _ _ _
      | exact ih1 _ _ _ _ _ _ _ _ _ _ _ _
      | exact ih2 _ _ _ _ _ _ _ _ _ _ _ _
      | exact reelkeeperlaw13_Few.mono _ _ _ _
      | exact LeO.none _
      | refine LeO.ite ?_ ?_
      | refine LeO.bind ?_ (fun _ => ?_)
    · intro y0 y1 y2 y3 y4 y5 y6 y7 y8 y9 y10 y11
      unfold reelkeeperlaw13_DriveLost.j2
      repeat' first
      | (with_reducible exact ih0 _ _ _ _ _ _ _)
      | (with_reducible exact ih1 _ _ _ _ _ _ _ _ _ _ _ _)
      | (with_reducible exact ih2 _ _ _ _ _ _ _ _ _ _ _ _)
      | (with_reducible exact reelkeeperlaw13_Few.mono _ _ _ _)
      | (with_reducible exact LeO.refl _)
      | (with_reducible exact LeO.none _)
      | (with_reducible refine LeO.ite ?_ ?_)
      | (with_reducible refine LeO.bind ?_ (fun _ => ?_))
      | exact ih0 _ _ _ _ _ _ _
      | exact ih1 _ _ _ _ _ _ _ _ _ _ _ _
      | exact ih2 _ _ _ _ _ _ _ _ _ _ _ _
      | exact reelkeeperlaw13_Few.mono _ _ _ _
      | exact LeO.none _
      | refine LeO.ite ?_ ?_
      | refine LeO.bind ?_ (fun _ => ?_)
theorem reelkeeperlaw13_DriveLost.mono : ∀ a0 a1 a2 a3 a4 k, LeO (reelkeeperlaw13_DriveLost.f k a0 a1 a2 a3 a4) (reelkeeperlaw13_DriveLost.f (k + 1) a0 a1 a2 a3 a4) := by
  intro a0 a1 a2 a3 a4 k
  obtain ⟨ih0, ih1, ih2⟩ := reelkeeperlaw13_DriveLost.mono_l k
  unfold reelkeeperlaw13_DriveLost.f
  repeat' first
      | (with_reducible exact ih0 _ _ _ _ _ _ _)
      | (with_reducible exact ih1 _ _ _ _ _ _ _ _ _ _ _ _)
      | (with_reducible exact ih2 _ _ _ _ _ _ _ _ _ _ _ _)
      | (with_reducible exact reelkeeperlaw13_Few.mono _ _ _ _)
      | (with_reducible exact LeO.refl _)
      | (with_reducible exact LeO.none _)
      | (with_reducible refine LeO.ite ?_ ?_)
      | (with_reducible refine LeO.bind ?_ (fun _ => ?_))
      | exact ih0 _ _ _ _ _ _ _
      | exact ih1 _ _ _ _ _ _ _ _ _ _ _ _
      | exact ih2 _ _ _ _ _ _ _ _ _ _ _ _
      | exact reelkeeperlaw13_Few.mono _ _ _ _
      | exact LeO.none _
      | refine LeO.ite ?_ ?_
      | refine LeO.bind ?_ (fun _ => ?_)
def reelkeeperlaw13_DriveLost.T7 : Bool × List (List Nat × List Nat) := (true, [([], []), ([0], [0]), ([1], [1]), ([2], [2]), ([3, 2, 2], [2, 3]), ([4, 2], [2, 4]), ([2, 5], [2, 5]), ([6, 4], [6]), ([7], [7]), ([8, 7], [7, 8]), ([9, 7], [7, 9]), ([7], [7]), ([11, 7], [7, 11]), ([12, 7], [7, 12]), ([10, 13, 7], [7, 10, 13]), ([7, 14], [7, 14]), ([15, 7], [15]), ([16], [16]), ([17, 16], [16, 17]), ([16], [16]), ([19, 16], [16, 19]), ([18, 20, 16], [16, 18, 20]), ([21, 16], [16, 21]), ([22, 16], [16, 22]), ([23, 16], [16, 23]), ([16], [16]), ([25, 16], [16, 25]), ([24, 26, 16], [16, 24, 26]), ([16, 27], [16, 27]), ([28, 16], [28]), ([29], [29]), ([30, 29], [29, 30]), ([29], [29]), ([32, 29], [29, 32]), ([31, 33, 29], [29, 31, 33]), ([34, 29], [29, 34]), ([35, 29], [29, 35]), ([36, 29], [29, 36]), ([29, 37], [29, 37]), ([38, 29], [38]), ([39], [39]), ([40, 39], [39, 40]), ([39], [39]), ([42, 39], [39, 42]), ([41, 43, 39], [39, 41, 43]), ([39, 44], [39, 44])])
def reelkeeperlaw13_DriveLost.B7 : List Nat := [0, 1, 3, 7, 15, 31, 63, 127, 255, 511, 1023, 255, 2303, 6399, 16383, 32767, 65535, 131071, 262143, 131071, 655359, 2097151, 4194303, 8388607, 16777215, 131071, 33685503, 134217727, 268435455, 536870911, 1073741823, 2147483647, 1073741823, 5368709119, 17179869183, 34359738367, 68719476735, 137438953471, 274877906943, 549755813887, 1099511627775, 2199023255551, 1099511627775, 5497558138879, 17592186044415, 35184372088831]
theorem reelkeeperlaw13_DriveLost.tab7 : rtab .any (opsOf Try.f6 7) = reelkeeperlaw13_DriveLost.T7 := by kernel_rfl
theorem reelkeeperlaw13_DriveLost.bits7 : waitsOk reelkeeperlaw13_DriveLost.T7.2 reelkeeperlaw13_DriveLost.B7 = true := by kernel_rfl
def reelkeeperlaw13_DriveLost.T10 : Bool × List (List Nat × List Nat) := (true, [([], []), ([0], [0]), ([1], [1]), ([2], [2]), ([3, 2], [2, 3]), ([4, 2], [2, 4]), ([2], [2]), ([6, 2], [2, 6]), ([7, 2], [2, 7]), ([5, 8, 2], [2, 5, 8]), ([9, 2, 2], [2, 9]), ([10], [10]), ([11, 10], [10, 11]), ([10], [10]), ([13, 10], [10, 13]), ([12, 14, 10], [10, 12, 14]), ([15, 10], [10, 15]), ([16, 10], [10, 16]), ([17, 10], [10, 17]), ([10], [10]), ([19, 10], [10, 19]), ([20, 10], [10, 20]), ([18, 21, 10], [10, 18, 21]), ([10, 22, 2], [2, 10, 22]), ([2, 23], [2, 23]), ([24, 10, 0, 1, 2, 3, 4, 5, 6, 7, 8, 9, 10, 11, 12, 13, 14, 15, 16, 17, 18, 19, 20, 21, 22, 23, 24], [24])])
def reelkeeperlaw13_DriveLost.B10 : List Nat := [0, 1, 3, 7, 15, 31, 7, 71, 199, 511, 1023, 2047, 4095, 2047, 10239, 32767, 65535, 131071, 262143, 2047, 526335, 1574911, 4194303, 8388607, 16777215, 33554431]
theorem reelkeeperlaw13_DriveLost.tab10 : rtab .any (opsOf Try.f6 10) = reelkeeperlaw13_DriveLost.T10 := by kernel_rfl
theorem reelkeeperlaw13_DriveLost.bits10 : waitsOk reelkeeperlaw13_DriveLost.T10.2 reelkeeperlaw13_DriveLost.B10 = true := by kernel_rfl
set_option maxHeartbeats 8000000 in
set_option maxRecDepth 100000 in
theorem reelkeeperlaw13_DriveLost.calls (k : Nat) (A0_0 : Option Addr) (c0_0 : Nat) (l0_0 : List (S41)) (a0_1 : Int) (a0_2 : Int) (A1 : Option Addr) (c1 : Nat) (l1 : List Int) (a2 : Int) (r : Bool) (w : World) (hr0_0 : Kd.C k41 w A0_0 l0_0.length l0_0) (hc0_0 : l0_0.length ≤ c0_0) (hr1 : Kd.C (Kd.int .u8) w A1 l1.length l1) (hc1 : l1.length ≤ c1) (h : reelkeeperlaw13_DriveLost.f k l0_0 a0_1 a0_2 l1 a2 = some r) :
  Calls Try.prog 6 #[.agg #[.slice A0_0 l0_0.length c0_0, .int .i64 a0_1, .int .i64 a0_2], .slice A1 l1.length c1, .int .i64 a2] w fun e w' => e = .returned (.bool r) ∧ Below w.heap.size w w' := by
 have hu24 := Try.underlying24; have hu41 := Try.underlying41; have HR0_0 := zA hr0_0; have HC0_0 := zA hc0_0; clear hr0_0 hc0_0; have HR1 := zA hr1; have HC1 := zA hc1; clear hr1 hc1; have HB := zA (Below.refl w.heap.size w); have H : ((reelkeeperlaw13_awake.f).bind fun t550 => ((reelkeeperlaw13_Few.f k l0_0 a0_1 a0_2).bind fun t551 => (if t550 = true then (if t551 = true then (if (l1.length : Int) > 12000 then (reelkeeperlaw13_DriveLost.j0 k l1 a2 t550 true l0_0 a0_1 a0_2) else ((drive_May.f l0_0 a0_1 a0_2).bind fun t552 => (if t552 = true then (reelkeeperlaw13_DriveLost.j0 k l1 a2 t550 (decide (a0_1 < 0)) l0_0 a0_1 a0_2) else (reelkeeperlaw13_DriveLost.j0 k l1 a2 t550 true l0_0 a0_1 a0_2)))) else (reelkeeperlaw13_DriveLost.j0 k l1 a2 t550 true l0_0 a0_1 a0_2)) else (reelkeeperlaw13_DriveLost.j0 k l1 a2 t550 true l0_0 a0_1 a0_2)))) = some r := h; clear h; replace H := Option.bind_eq_some_iff.mp H; obtain ⟨t550, A40, H⟩ := H; replace H : ((reelkeeperlaw13_Few.f k l0_0 a0_1 a0_2).bind fun t551 => (if t550 = true then (if t551 = true then (if (l1.length : Int) > 12000 then (reelkeeperlaw13_DriveLost.j0 k l1 a2 t550 true l0_0 a0_1 a0_2) else ((drive_May.f l0_0 a0_1 a0_2).bind fun t552 => (if t552 = true then (reelkeeperlaw13_DriveLost.j0 k l1 a2 t550 (decide (a0_1 < 0)) l0_0 a0_1 a0_2) else (reelkeeperlaw13_DriveLost.j0 k l1 a2 t550 true l0_0 a0_1 a0_2)))) else (reelkeeperlaw13_DriveLost.j0 k l1 a2 t550 true l0_0 a0_1 a0_2)) else (reelkeeperlaw13_DriveLost.j0 k l1 a2 t550 true l0_0 a0_1 a0_2))) = some r := H; have A4 := zA A40; clear A40; replace H := Option.bind_eq_some_iff.mp H; obtain ⟨t551, A50, H⟩ := H; replace H : (if t550 = true then (if t551 = true then (if (l1.length : Int) > 12000 then (reelkeeperlaw13_DriveLost.j0 k l1 a2 t550 true l0_0 a0_1 a0_2) else ((drive_May.f l0_0 a0_1 a0_2).bind fun t552 => (if t552 = true then (reelkeeperlaw13_DriveLost.j0 k l1 a2 t550 (decide (a0_1 < 0)) l0_0 a0_1 a0_2) else (reelkeeperlaw13_DriveLost.j0 k l1 a2 t550 true l0_0 a0_1 a0_2)))) else (reelkeeperlaw13_DriveLost.j0 k l1 a2 t550 true l0_0 a0_1 a0_2)) else (reelkeeperlaw13_DriveLost.j0 k l1 a2 t550 true l0_0 a0_1 a0_2)) = some r := H; have A5 := zA A50; clear A50; have HC6 := zA H; clear H
 go_enter Try.func6, Try.ntmps6
 go_upto_region 3 with (first | ((with_reducible refine gate_dst (N := 3) rfl ?_); (try (refine gate_guard (by rfl) ?_; dsimp only)); refine box_event ?hg (N := 3) ?hd (cs := #[.slice A0_0 l0_0.length c0_0, .int .i64 a0_1, .int .i64 a0_2]) (t := 24) ?hr ?_; (case hd => rfl); (case hg => rfl); (case hr => first | (go_simp; done) | (go_simp; rfl)); intro gb549 hg w7 hbox hb; have n0_ := zA (below_step (by repeat (first | (with_reducible first | exact HB.out | apply bL | apply bP | apply bD) | exact HB.out)) hb); have n1_ := zA (hbox); have n2_ := zA ((by rw [hg]; exact (below_size (by repeat (first | (with_reducible first | exact HB.out | apply bL | apply bP | apply bD) | exact HB.out))) : w.heap.size ≤ gb549)); have n3_ := zA ((by rw [hg]; exact (below_size (by repeat (first | (with_reducible first | exact HB.out | apply bL | apply bP | apply bD) | exact HB.out))) : w.heap.size ≤ gb549)); clear HB; have HB := n0_; have BK549 := n1_; have GW549 := n2_; have GE549 := n3_; clear n0_ n1_ n2_ n3_; clear hb hbox hg) | ((with_reducible refine gate_callee (f := 9) rfl ?_); refine goesL_ (some 19) rfl rfl Try.func9 (by kernel_rfl) rfl #[] rfl (by (try simp only [List.map_toArray, List.map_cons, List.map_nil]); first | done | rfl | (simp only [List.length_drop, List.length_take]; rfl)) ?_; (with_reducible refine (reelkeeperlaw13_awake.calls  t550 _ A4.out).mono ?_); rintro e w8 ⟨rfl, hb⟩; refine ⟨_, rfl, ?_⟩; have n0_ := zA (bK BK549.out hb); have n1_ := zA (below_step (by repeat (first | (with_reducible first | exact HB.out | apply bL | apply bP | apply bD | refine bS ?_ GE549.out) | exact HB.out)) hb); clear BK549; clear HB; have BK549 := n0_; have HB := n1_; clear n0_ n1_; (try clear hb); (try clear hb2); (try clear hk); (try clear hi); have hcz9_0 : w8.cell? ⟨gb549, 0, none⟩ = some (.slice A0_0 l0_0.length c0_0) := (blk_cell BK549.out 0).trans rfl; have hcz9_1 : w8.cell? ⟨gb549, 1, none⟩ = some (.int .i64 a0_1) := (blk_cell BK549.out 1).trans rfl; have hcz9_2 : w8.cell? ⟨gb549, 2, none⟩ = some (.int .i64 a0_2) := (blk_cell BK549.out 2).trans rfl; have hfz9_0 := blk_frozen BK549.out 0; have hfz9_1 := blk_frozen BK549.out 1; have hfz9_2 := blk_frozen BK549.out 2) | ((with_reducible refine gate_callee (f := 10) rfl ?_); refine goesL_ (some 21) rfl rfl Try.func10 (by kernel_rfl) rfl #[.agg #[.slice A0_0 l0_0.length c0_0, .int .i64 a0_1, .int .i64 a0_2]] rfl (by (try simp only [List.map_toArray, List.map_cons, List.map_nil]); first | done | rfl | (simp only [List.length_drop, List.length_take]; rfl)) ?_; (with_reducible refine (reelkeeperlaw13_Few.calls k _ _ l0_0 a0_1 a0_2 t551 _ ?side1 ?side2 A5.out).mono ?_); (case side1 => repeat (first | exact (Kd.C_below HR0_0.out HB.out) | (with_reducible refine Kd.C_alloc ?_ _) | (with_reducible refine Kd.C_drewN ?_ _) | (with_reducible refine Kd.C_drew ?_))); (case side2 => exact HC0_0.out); rintro e w10 ⟨rfl, hb⟩; refine ⟨_, rfl, ?_⟩; have n0_ := zA (bK BK549.out hb); have n1_ := zA (below_step (by repeat (first | (with_reducible first | exact HB.out | apply bL | apply bP | apply bD | refine bS ?_ GE549.out) | exact HB.out)) hb); clear BK549; clear HB; have BK549 := n0_; have HB := n1_; clear n0_ n1_; (try clear hb); (try clear hb2); (try clear hk); (try clear hi)))
 (try simp only [Act.put, sA, sB, sC])
 go_cut [42] (fun v42 wc => ∃ (kq : Nat) (x42_5 : Bool), v42 = .bool x42_5 ∧ Aside0 (reelkeeperlaw13_DriveLost.j0 kq l1 a2 t550 x42_5 l0_0 a0_1 a0_2 = some r) ∧ Aside0 (kq ≤ k) ∧ Aside0 (wc.heap[gb549]? = some (.cells #[(.slice A0_0 l0_0.length c0_0), .int .i64 a0_1, .int .i64 a0_2] 24 (0, 0))) ∧ Aside0 (Below w.heap.size w wc))
 case first =>
  have H := HC6.out; clear HC6
  by_cases c11 : t550 = true
  ·subst c11
   have H1 : (if t551 = true then (if (l1.length : Int) > 12000 then (reelkeeperlaw13_DriveLost.j0 k l1 a2 true true l0_0 a0_1 a0_2) else ((drive_May.f l0_0 a0_1 a0_2).bind fun t552 => (if t552 = true then (reelkeeperlaw13_DriveLost.j0 k l1 a2 true (decide (a0_1 < 0)) l0_0 a0_1 a0_2) else (reelkeeperlaw13_DriveLost.j0 k l1 a2 true true l0_0 a0_1 a0_2)))) else (reelkeeperlaw13_DriveLost.j0 k l1 a2 true true l0_0 a0_1 a0_2)) = some r := by rw [if_pos rfl] at H; exact H
   clear H; have H := H1; clear H1
   by_cases c12 : t551 = true
   ·subst c12
    have H1 : (if (l1.length : Int) > 12000 then (reelkeeperlaw13_DriveLost.j0 k l1 a2 true true l0_0 a0_1 a0_2) else ((drive_May.f l0_0 a0_1 a0_2).bind fun t552 => (if t552 = true then (reelkeeperlaw13_DriveLost.j0 k l1 a2 true (decide (a0_1 < 0)) l0_0 a0_1 a0_2) else (reelkeeperlaw13_DriveLost.j0 k l1 a2 true true l0_0 a0_1 a0_2)))) = some r := by rw [if_pos rfl] at H; exact H
    clear H; have H := H1; clear H1
    by_cases c13 : (l1.length : Int) > 12000
    ·rw [if_pos c13] at H
     have c13b0 : decide (12000 < (l1.length : Int)) = true := decide_eq_true c13; have c13b1 : decide (12000 < l1.length) = true := decide_eq_true (by omega); clear c13
     (first | rw [c13b0] | (simp only [i64_w, i32_w]; rw [c13b0]) | skip)
     have H' := zA H; clear H
     go_wp2
     go_meet
     case rel => exact ⟨_, (true), (by first | rfl | (simp; done) | (simp [*]; done)), H', ⟨by first | omega | exact Nat.le_refl _⟩, ⟨by exact BK549.out⟩, ⟨by repeat (first | (with_reducible first | exact HB.out | apply bL | apply bP | apply bD | refine bS ?_ GE549.out) | exact HB.out)⟩⟩
    ·rw [if_neg c13] at H
     have c13b0 : decide (12000 < (l1.length : Int)) = false := decide_eq_false c13; have c13b1 : decide (12000 < l1.length) = false := decide_eq_false (by omega); clear c13
     (first | rw [c13b0] | (simp only [i64_w, i32_w]; rw [c13b0]) | skip)
     replace H := Option.bind_eq_some_iff.mp H; obtain ⟨t552, A140, H⟩ := H; replace H : (if t552 = true then (reelkeeperlaw13_DriveLost.j0 k l1 a2 true (decide (a0_1 < 0)) l0_0 a0_1 a0_2) else (reelkeeperlaw13_DriveLost.j0 k l1 a2 true true l0_0 a0_1 a0_2)) = some r := H; have A14 := zA A140; clear A140
     by_cases c15 : t552 = true
     ·subst c15
      have H1 : (reelkeeperlaw13_DriveLost.j0 k l1 a2 true (decide (a0_1 < 0)) l0_0 a0_1 a0_2) = some r := by rw [if_pos rfl] at H; exact H
      clear H; have H := H1; clear H1; have H' := zA H; clear H; have hcz16_0 : w10.cell? ⟨gb549, 0, none⟩ = some (.slice A0_0 l0_0.length c0_0) := (blk_cell BK549.out 0).trans rfl; have hcz16_1 : w10.cell? ⟨gb549, 1, none⟩ = some (.int .i64 a0_1) := (blk_cell BK549.out 1).trans rfl; have hcz16_2 : w10.cell? ⟨gb549, 2, none⟩ = some (.int .i64 a0_2) := (blk_cell BK549.out 2).trans rfl; have hfz16_0 := blk_frozen BK549.out 0; have hfz16_1 := blk_frozen BK549.out 1; have hfz16_2 := blk_frozen BK549.out 2
      go_wp2_with (first | (go_at_call 27; (with_reducible refine (drive_May.calls _ _ l0_0 a0_1 a0_2 true _ ?side1 ?side2 A14.out).mono ?_); (case side1 => repeat (first | exact (Kd.C_below HR0_0.out HB.out) | (with_reducible refine Kd.C_alloc ?_ _) | (with_reducible refine Kd.C_drewN ?_ _) | (with_reducible refine Kd.C_drew ?_))); (case side2 => exact HC0_0.out); rintro e w17 ⟨rfl, hb⟩; have n0_ := zA (bK BK549.out hb); have n1_ := zA (below_step (by repeat (first | (with_reducible first | exact HB.out | apply bL | apply bP | apply bD | refine bS ?_ GE549.out) | exact HB.out)) hb); clear BK549; clear HB; have BK549 := n0_; have HB := n1_; clear n0_ n1_; (try clear hb); (try clear hb2); (try clear hk); (try clear hi); have hcz18_0 : w17.cell? ⟨gb549, 0, none⟩ = some (.slice A0_0 l0_0.length c0_0) := (blk_cell BK549.out 0).trans rfl; have hcz18_1 : w17.cell? ⟨gb549, 1, none⟩ = some (.int .i64 a0_1) := (blk_cell BK549.out 1).trans rfl; have hcz18_2 : w17.cell? ⟨gb549, 2, none⟩ = some (.int .i64 a0_2) := (blk_cell BK549.out 2).trans rfl; have hfz18_0 := blk_frozen BK549.out 0; have hfz18_1 := blk_frozen BK549.out 1; have hfz18_2 := blk_frozen BK549.out 2))
      go_meet
      case rel => exact ⟨_, (decide (a0_1 < 0)), (by first | rfl | (simp; done) | (simp [*]; done)), H', ⟨by first | omega | exact Nat.le_refl _⟩, ⟨by exact BK549.out⟩, ⟨by repeat (first | (with_reducible first | exact HB.out | apply bL | apply bP | apply bD | refine bS ?_ GE549.out) | exact HB.out)⟩⟩
     ·replace c15 := Bool.eq_false_iff.mpr c15
      subst c15
      have H1 : (reelkeeperlaw13_DriveLost.j0 k l1 a2 true true l0_0 a0_1 a0_2) = some r := by rw [if_neg (show ¬ (false = true) by decide)] at H; exact H
      clear H; have H := H1; clear H1; have H' := zA H; clear H; have hcz19_0 : w10.cell? ⟨gb549, 0, none⟩ = some (.slice A0_0 l0_0.length c0_0) := (blk_cell BK549.out 0).trans rfl; have hcz19_1 : w10.cell? ⟨gb549, 1, none⟩ = some (.int .i64 a0_1) := (blk_cell BK549.out 1).trans rfl; have hcz19_2 : w10.cell? ⟨gb549, 2, none⟩ = some (.int .i64 a0_2) := (blk_cell BK549.out 2).trans rfl; have hfz19_0 := blk_frozen BK549.out 0; have hfz19_1 := blk_frozen BK549.out 1; have hfz19_2 := blk_frozen BK549.out 2
      go_wp2_with (first | (go_at_call 27; (with_reducible refine (drive_May.calls _ _ l0_0 a0_1 a0_2 false _ ?side1 ?side2 A14.out).mono ?_); (case side1 => repeat (first | exact (Kd.C_below HR0_0.out HB.out) | (with_reducible refine Kd.C_alloc ?_ _) | (with_reducible refine Kd.C_drewN ?_ _) | (with_reducible refine Kd.C_drew ?_))); (case side2 => exact HC0_0.out); rintro e w20 ⟨rfl, hb⟩; have n0_ := zA (bK BK549.out hb); have n1_ := zA (below_step (by repeat (first | (with_reducible first | exact HB.out | apply bL | apply bP | apply bD | refine bS ?_ GE549.out) | exact HB.out)) hb); clear BK549; clear HB; have BK549 := n0_; have HB := n1_; clear n0_ n1_; (try clear hb); (try clear hb2); (try clear hk); (try clear hi)))
      go_meet
      case rel => exact ⟨_, (true), (by first | rfl | (simp; done) | (simp [*]; done)), H', ⟨by first | omega | exact Nat.le_refl _⟩, ⟨by exact BK549.out⟩, ⟨by repeat (first | (with_reducible first | exact HB.out | apply bL | apply bP | apply bD | refine bS ?_ GE549.out) | exact HB.out)⟩⟩
   ·replace c12 := Bool.eq_false_iff.mpr c12
    subst c12
    have H1 : (reelkeeperlaw13_DriveLost.j0 k l1 a2 true true l0_0 a0_1 a0_2) = some r := by rw [if_neg (show ¬ (false = true) by decide)] at H; exact H
    clear H; have H := H1; clear H1; have H' := zA H; clear H
    go_wp2
    go_meet
    case rel => exact ⟨_, (true), (by first | rfl | (simp; done) | (simp [*]; done)), H', ⟨by first | omega | exact Nat.le_refl _⟩, ⟨by exact BK549.out⟩, ⟨by repeat (first | (with_reducible first | exact HB.out | apply bL | apply bP | apply bD | refine bS ?_ GE549.out) | exact HB.out)⟩⟩
  ·replace c11 := Bool.eq_false_iff.mpr c11
   subst c11
   have H1 : (reelkeeperlaw13_DriveLost.j0 k l1 a2 false true l0_0 a0_1 a0_2) = some r := by rw [if_neg (show ¬ (false = true) by decide)] at H; exact H
   clear H; have H := H1; clear H1; have H' := zA H; clear H
   go_wp2
   go_meet
   case rel => exact ⟨_, (true), (by first | rfl | (simp; done) | (simp [*]; done)), H', ⟨by first | omega | exact Nat.le_refl _⟩, ⟨by exact BK549.out⟩, ⟨by repeat (first | (with_reducible first | exact HB.out | apply bL | apply bP | apply bD | refine bS ?_ GE549.out) | exact HB.out)⟩⟩
 case rest =>
  clear HC6
  try clear c1
  try clear p2
  try clear c6
  try clear c9
  try clear c10
  try clear c11
  try clear c12
  try clear c13
  try clear c13b0
  try clear c13b1
  try clear c15
  try clear hcz16_0
  try clear hcz16_1
  try clear hcz16_2
  try clear hcz18_0
  try clear hcz18_1
  try clear hcz18_2
  try clear hcz19_0
  try clear hcz19_1
  try clear hcz19_2
  try clear hcz9_0
  try clear hcz9_1
  try clear hcz9_2
  try clear hfz16_0
  try clear hfz16_1
  try clear hfz16_2
  try clear hfz18_0
  try clear hfz18_1
  try clear hfz18_2
  try clear hfz19_0
  try clear hfz19_1
  try clear hfz19_2
  try clear hfz9_0
  try clear hfz9_1
  try clear hfz9_2
  obtain ⟨kq, x42_5, rfl, HA, HJ5, BK549, HB⟩ := hcut
  cases kq with
  | zero => exact absurd HA.out (by simp [reelkeeperlaw13_DriveLost.j0])
  | succ kj5 =>
   have H := HA.out; clear HA
   simp only [reelkeeperlaw13_DriveLost.j0] at H
   by_cases c21 : x42_5 = true
   ·subst c21
    have H1 : (some t550) = some r := by rw [if_pos rfl] at H; exact H
    clear H; have H := H1; clear H1; obtain rfl := Option.some.inj H
    go_wp2
    go_ret
    exact ⟨by first | rfl | (simp [errW_none, errW_some] <;> rfl) | (simp [*, errW_none, errW_some] <;> rfl), by repeat (first | (with_reducible first | exact HB.out | apply bL | apply bP | apply bD | refine bS ?_ GE549.out) | exact HB.out)⟩
   ·replace c21 := Bool.eq_false_iff.mpr c21
    subst c21
    have H1 : ((drive_Write.f l0_0 a0_1 a0_2 l1).bind fun bt553 => ((drive_Mark.f l0_0 a0_1 a0_2).bind fun bt560 => (if bt560.2.2.2 = 0 then ((drive_May.f bt560.1 bt560.2.1 bt560.2.2.1).bind fun t567 => (if t567 = true then (if (bt560.1.length : Int) = (l0_0.length : Int) then (if 0 ≤ a0_1 then (if a0_1 < (bt560.1.length : Int) then (if (((rd_T41 bt560.1 a0_1).f1).length : Int) = a0_2 then (if ((rd_T41 bt560.1 a0_1).f2 = true) then (reelkeeperlaw13_DriveLost.j1 kj5 a2 bt553.2.2.2 (bt560.2.2.1 != a0_2) l0_0 a0_1 a0_2 bt553.1 bt553.2.1 bt553.2.2.1 bt560.1 bt560.2.1 bt560.2.2.1) else (reelkeeperlaw13_DriveLost.j1 kj5 a2 bt553.2.2.2 true l0_0 a0_1 a0_2 bt553.1 bt553.2.1 bt553.2.2.1 bt560.1 bt560.2.1 bt560.2.2.1)) else (reelkeeperlaw13_DriveLost.j1 kj5 a2 bt553.2.2.2 true l0_0 a0_1 a0_2 bt553.1 bt553.2.1 bt553.2.2.1 bt560.1 bt560.2.1 bt560.2.2.1)) else (none)) else (none)) else (reelkeeperlaw13_DriveLost.j1 kj5 a2 bt553.2.2.2 true l0_0 a0_1 a0_2 bt553.1 bt553.2.1 bt553.2.2.1 bt560.1 bt560.2.1 bt560.2.2.1)) else (reelkeeperlaw13_DriveLost.j1 kj5 a2 bt553.2.2.2 true l0_0 a0_1 a0_2 bt553.1 bt553.2.1 bt553.2.2.1 bt560.1 bt560.2.1 bt560.2.2.1))) else (reelkeeperlaw13_DriveLost.j1 kj5 a2 bt553.2.2.2 true l0_0 a0_1 a0_2 bt553.1 bt553.2.1 bt553.2.2.1 bt560.1 bt560.2.1 bt560.2.2.1)))) = some r := by rw [if_neg (show ¬ (false = true) by decide)] at H; exact H
    clear H; have H := H1; clear H1; replace H := Option.bind_eq_some_iff.mp H; obtain ⟨⟨t553, t556, t557, t558⟩, A220, H⟩ := H; replace H : ((drive_Mark.f l0_0 a0_1 a0_2).bind fun bt560 => (if bt560.2.2.2 = 0 then ((drive_May.f bt560.1 bt560.2.1 bt560.2.2.1).bind fun t567 => (if t567 = true then (if (bt560.1.length : Int) = (l0_0.length : Int) then (if 0 ≤ a0_1 then (if a0_1 < (bt560.1.length : Int) then (if (((rd_T41 bt560.1 a0_1).f1).length : Int) = a0_2 then (if ((rd_T41 bt560.1 a0_1).f2 = true) then (reelkeeperlaw13_DriveLost.j1 kj5 a2 t558 (bt560.2.2.1 != a0_2) l0_0 a0_1 a0_2 t553 t556 t557 bt560.1 bt560.2.1 bt560.2.2.1) else (reelkeeperlaw13_DriveLost.j1 kj5 a2 t558 true l0_0 a0_1 a0_2 t553 t556 t557 bt560.1 bt560.2.1 bt560.2.2.1)) else (reelkeeperlaw13_DriveLost.j1 kj5 a2 t558 true l0_0 a0_1 a0_2 t553 t556 t557 bt560.1 bt560.2.1 bt560.2.2.1)) else (none)) else (none)) else (reelkeeperlaw13_DriveLost.j1 kj5 a2 t558 true l0_0 a0_1 a0_2 t553 t556 t557 bt560.1 bt560.2.1 bt560.2.2.1)) else (reelkeeperlaw13_DriveLost.j1 kj5 a2 t558 true l0_0 a0_1 a0_2 t553 t556 t557 bt560.1 bt560.2.1 bt560.2.2.1))) else (reelkeeperlaw13_DriveLost.j1 kj5 a2 t558 true l0_0 a0_1 a0_2 t553 t556 t557 bt560.1 bt560.2.1 bt560.2.2.1))) = some r := H; have A22 := zA A220; clear A220; replace H := Option.bind_eq_some_iff.mp H; obtain ⟨⟨t560, t563, t564, t565⟩, A230, H⟩ := H; replace H : (if t565 = 0 then ((drive_May.f t560 t563 t564).bind fun t567 => (if t567 = true then (if (t560.length : Int) = (l0_0.length : Int) then (if 0 ≤ a0_1 then (if a0_1 < (t560.length : Int) then (if (((rd_T41 t560 a0_1).f1).length : Int) = a0_2 then (if ((rd_T41 t560 a0_1).f2 = true) then (reelkeeperlaw13_DriveLost.j1 kj5 a2 t558 (t564 != a0_2) l0_0 a0_1 a0_2 t553 t556 t557 t560 t563 t564) else (reelkeeperlaw13_DriveLost.j1 kj5 a2 t558 true l0_0 a0_1 a0_2 t553 t556 t557 t560 t563 t564)) else (reelkeeperlaw13_DriveLost.j1 kj5 a2 t558 true l0_0 a0_1 a0_2 t553 t556 t557 t560 t563 t564)) else (none)) else (none)) else (reelkeeperlaw13_DriveLost.j1 kj5 a2 t558 true l0_0 a0_1 a0_2 t553 t556 t557 t560 t563 t564)) else (reelkeeperlaw13_DriveLost.j1 kj5 a2 t558 true l0_0 a0_1 a0_2 t553 t556 t557 t560 t563 t564))) else (reelkeeperlaw13_DriveLost.j1 kj5 a2 t558 true l0_0 a0_1 a0_2 t553 t556 t557 t560 t563 t564)) = some r := H; have A23 := zA A230; clear A230; have HC24 := zA H; clear H; have hcz25_0 : wc.cell? ⟨gb549, 0, none⟩ = some (.slice A0_0 l0_0.length c0_0) := (blk_cell BK549.out 0).trans rfl; have hcz25_1 : wc.cell? ⟨gb549, 1, none⟩ = some (.int .i64 a0_1) := (blk_cell BK549.out 1).trans rfl; have hcz25_2 : wc.cell? ⟨gb549, 2, none⟩ = some (.int .i64 a0_2) := (blk_cell BK549.out 2).trans rfl; have hfz25_0 := blk_frozen BK549.out 0; have hfz25_1 := blk_frozen BK549.out 1; have hfz25_2 := blk_frozen BK549.out 2
    go_upto_region 7 with (first | ((with_reducible refine gate_callee (f := 17) rfl ?_); refine goesL_ (some 47) rfl rfl Try.func17 (by kernel_rfl) rfl #[.agg #[.slice A0_0 l0_0.length c0_0, .int .i64 a0_1, .int .i64 a0_2], .slice A1 l1.length c1] rfl (by (try simp only [List.map_toArray, List.map_cons, List.map_nil]); first | done | rfl | (simp only [List.length_drop, List.length_take]; rfl)) ?_; (with_reducible refine (drive_Write.calls _ _ l0_0 a0_1 a0_2 _ _ l1 t553 t556 t557 t558 _ ?side1 ?side2 ?side3 ?side4 A22.out).mono ?_); (case side1 => repeat (first | exact (Kd.C_below HR0_0.out HB.out) | (with_reducible refine Kd.C_alloc ?_ _) | (with_reducible refine Kd.C_drewN ?_ _) | (with_reducible refine Kd.C_drew ?_))); (case side2 => exact HC0_0.out); (case side3 => repeat (first | exact (Kd.C_below HR1.out HB.out) | (with_reducible refine Kd.C_alloc ?_ _) | (with_reducible refine Kd.C_drewN ?_ _) | (with_reducible refine Kd.C_drew ?_))); (case side4 => exact HC1.out); rintro e w26 ⟨v554, rfl, ho0, hb⟩; refine ⟨_, rfl, ?_⟩; have n0_ := zA (Kd.V_lower (Kd.V_mono (ok' := fun k_ => k_ ≠ gb549) ho0 (fun k_ hk_ => (Kd.freshB BK549.out k_ hk_))) (below_size (by repeat (first | (with_reducible first | exact HB.out | apply bL | apply bP | apply bD | refine bS ?_ GE549.out) | exact HB.out)))); have n1_ := zA (bK BK549.out hb); have n2_ := zA (below_step (by repeat (first | (with_reducible first | exact HB.out | apply bL | apply bP | apply bD | refine bS ?_ GE549.out) | exact HB.out)) hb); clear BK549; clear HB; have HO555 := n0_; have BK549 := n1_; have HB := n2_; clear n0_ n1_ n2_; (try clear hb); (try clear hb2); (try clear hk); (try clear hi); (try clear ho0)) | ((with_reducible refine gate_dst (N := 9) rfl ?_); (try (refine gate_guard (by rfl) ?_; dsimp only)); refine box_event ?hg (N := 9) ?hd (cs := #[.slice none 0 0, .int .i64 0, .int .i64 0]) (t := 24) ?hr ?_; (case hd => rfl); (case hg => rfl); (case hr => first | (go_simp; done) | (go_simp; rfl)); intro gb559 hg w27 hbox hb; have n0_ := zA (Kd.V_below (Kd.V_elderB HO555.out gb559 (Nat.le_of_eq hg.symm)) hb); have n1_ := zA (bK BK549.out hb); have n2_ := zA (below_step (by repeat (first | (with_reducible first | exact HB.out | apply bL | apply bP | apply bD | refine bS ?_ GE549.out) | exact HB.out)) hb); have n3_ := zA (hbox); have n4_ := zA ((by rw [hg]; exact (below_size (by repeat (first | (with_reducible first | exact HB.out | apply bL | apply bP | apply bD | refine bS ?_ GE549.out) | exact HB.out))) : w.heap.size ≤ gb559)); have n5_ := zA ((by rw [hg]; exact (below_size (by repeat (first | (with_reducible first | exact HB.out | apply bL | apply bP | apply bD | refine bS ?_ GE549.out) | exact HB.out))) : w.heap.size ≤ gb559)); have n6_ := zA ((by rw [hg]; exact Nat.ne_of_lt (blk_lt BK549.out) : gb549 ≠ gb559)); have n7_ := zA ((by rw [hg]; exact Nat.ne_of_gt (blk_lt BK549.out) : gb559 ≠ gb549)); clear HO555; clear BK549; clear HB; have HO555 := n0_; have BK549 := n1_; have HB := n2_; have BK559 := n3_; have GW559 := n4_; have GE559 := n5_; have NB549_559 := n6_; have NB559_549 := n7_; clear n0_ n1_ n2_ n3_ n4_ n5_ n6_ n7_; clear hb hbox hg; obtain ⟨Ao28, co28, eo28⟩ := Kd.V_slice HO555.out; subst eo28; have hnb29 := NB559_549.out; have hnc29 := NB549_559.out; have hcz30_0 : w27.cell? ⟨gb559, 0, none⟩ = some (.slice none 0 0) := (blk_cell BK559.out 0).trans rfl; have hcz30_1 : w27.cell? ⟨gb559, 1, none⟩ = some (.int .i64 0) := (blk_cell BK559.out 1).trans rfl; have hcz30_2 : w27.cell? ⟨gb559, 2, none⟩ = some (.int .i64 0) := (blk_cell BK559.out 2).trans rfl; have hfz30_0 := blk_frozen BK559.out 0; have hfz30_1 := blk_frozen BK559.out 1; have hfz30_2 := blk_frozen BK559.out 2; have hcz31_0 : w27.cell? ⟨gb549, 0, none⟩ = some (.slice A0_0 l0_0.length c0_0) := (blk_cell BK549.out 0).trans rfl; have hcz31_1 : w27.cell? ⟨gb549, 1, none⟩ = some (.int .i64 a0_1) := (blk_cell BK549.out 1).trans rfl; have hcz31_2 : w27.cell? ⟨gb549, 2, none⟩ = some (.int .i64 a0_2) := (blk_cell BK549.out 2).trans rfl; have hfz31_0 := blk_frozen BK549.out 0; have hfz31_1 := blk_frozen BK549.out 1; have hfz31_2 := blk_frozen BK549.out 2) | ((with_reducible refine gate_callee (f := 19) rfl ?_); refine goesL_ (some 52) rfl rfl Try.func19 (by kernel_rfl) rfl #[.agg #[.slice A0_0 l0_0.length c0_0, .int .i64 a0_1, .int .i64 a0_2]] rfl (by (try simp only [List.map_toArray, List.map_cons, List.map_nil]); first | done | rfl | (simp only [List.length_drop, List.length_take]; rfl)) ?_; (with_reducible refine (drive_Mark.calls _ _ l0_0 a0_1 a0_2 t560 t563 t564 t565 _ ?side1 ?side2 A23.out).mono ?_); (case side1 => exact Kd.C_below HR0_0.out (by repeat (first | (with_reducible first | exact HB.out | apply bL | apply bP | apply bD | refine bS ?_ GE549.out | refine bS ?_ GE559.out) | exact HB.out))); (case side2 => exact HC0_0.out); rintro e w32 ⟨v561, rfl, ho0, hb⟩; refine ⟨_, rfl, ?_⟩; have n0_ := zA (Kd.V_below (by exact (Kd.V_mono (Kd.V_far (p := ⟨gb559, 2, none⟩) (Kd.V_far (p := ⟨gb559, 1, none⟩) (Kd.V_far (p := ⟨gb559, 0, none⟩) (Kd.V_mono HO555.out (fun k_ hk => (⟨hk, hk.2⟩ : _ ∧ k_ ≠ gb559))) (fun _ hk => hk.2) (.slice Ao28 t553.length co28)) (fun _ hk => hk.2) (.int .i64 t556)) (fun _ hk => hk.2) (.int .i64 t557)) (fun _ h_ => h_.1))) hb); have n1_ := zA (Kd.V_lower (Kd.V_mono (ok' := fun k_ => k_ ≠ gb549 ∧ k_ ≠ gb559) ho0 (fun k_ hk_ => ⟨(Kd.freshB (g := gb549) (o := .cells #[.slice A0_0 l0_0.length c0_0, .int .i64 a0_1, .int .i64 a0_2] 24 (0, 0)) (by refine blk_far ?_ NB549_559.out _; refine blk_far ?_ NB549_559.out _; refine blk_far ?_ NB549_559.out _; exact BK549.out) k_ hk_), (Kd.freshB (g := gb559) (o := .cells #[.slice Ao28 t553.length co28, .int .i64 t556, .int .i64 t557] 24 (0, 0)) (by refine blk_put (cs := #[.slice Ao28 t553.length co28, .int .i64 t556, .int .i64 0]) ?_ 2 _ rfl; refine blk_put (cs := #[.slice Ao28 t553.length co28, .int .i64 0, .int .i64 0]) ?_ 1 _ rfl; refine blk_put (cs := #[.slice none 0 0, .int .i64 0, .int .i64 0]) ?_ 0 _ rfl; exact BK559.out) k_ hk_)⟩)) (below_size (by repeat (first | (with_reducible first | exact HB.out | apply bL | apply bP | apply bD | refine bS ?_ GE549.out | refine bS ?_ GE559.out) | exact HB.out)))); have n2_ := zA (bK (g := gb549) (o := .cells #[.slice A0_0 l0_0.length c0_0, .int .i64 a0_1, .int .i64 a0_2] 24 (0, 0)) (by refine blk_far ?_ NB549_559.out _; refine blk_far ?_ NB549_559.out _; refine blk_far ?_ NB549_559.out _; exact BK549.out) hb); have n3_ := zA (bK (g := gb559) (o := .cells #[.slice Ao28 t553.length co28, .int .i64 t556, .int .i64 t557] 24 (0, 0)) (by refine blk_put (cs := #[.slice Ao28 t553.length co28, .int .i64 t556, .int .i64 0]) ?_ 2 _ rfl; refine blk_put (cs := #[.slice Ao28 t553.length co28, .int .i64 0, .int .i64 0]) ?_ 1 _ rfl; refine blk_put (cs := #[.slice none 0 0, .int .i64 0, .int .i64 0]) ?_ 0 _ rfl; exact BK559.out) hb); have n4_ := zA (below_step (by repeat (first | (with_reducible first | exact HB.out | apply bL | apply bP | apply bD | refine bS ?_ GE549.out | refine bS ?_ GE559.out) | exact HB.out)) hb); clear HO555; clear BK549; clear BK559; clear HB; have HO555 := n0_; have HO562 := n1_; have BK549 := n2_; have BK559 := n3_; have HB := n4_; clear n0_ n1_ n2_ n3_ n4_; (try clear hb); (try clear hb2); (try clear hk); (try clear hi); (try clear ho0)) | ((with_reducible refine gate_dst (N := 11) rfl ?_); (try (refine gate_guard (by rfl) ?_; dsimp only)); refine box_event ?hg (N := 11) ?hd (cs := #[.slice none 0 0, .int .i64 0, .int .i64 0]) (t := 24) ?hr ?_; (case hd => rfl); (case hg => rfl); (case hr => first | (go_simp; done) | (go_simp; rfl)); intro gb566 hg w33 hbox hb; have n0_ := zA (Kd.V_below (Kd.V_elderB HO555.out gb566 (Nat.le_of_eq hg.symm)) hb); have n1_ := zA (Kd.V_below (Kd.V_elderB HO562.out gb566 (Nat.le_of_eq hg.symm)) hb); have n2_ := zA (bK BK549.out hb); have n3_ := zA (bK BK559.out hb); have n4_ := zA (below_step (by repeat (first | (with_reducible first | exact HB.out | apply bL | apply bP | apply bD | refine bS ?_ GE549.out | refine bS ?_ GE559.out) | exact HB.out)) hb); have n5_ := zA (hbox); have n6_ := zA ((by rw [hg]; exact (below_size (by repeat (first | (with_reducible first | exact HB.out | apply bL | apply bP | apply bD | refine bS ?_ GE549.out | refine bS ?_ GE559.out) | exact HB.out))) : w.heap.size ≤ gb566)); have n7_ := zA ((by rw [hg]; exact (below_size (by repeat (first | (with_reducible first | exact HB.out | apply bL | apply bP | apply bD | refine bS ?_ GE549.out | refine bS ?_ GE559.out) | exact HB.out))) : w.heap.size ≤ gb566)); have n8_ := zA ((by rw [hg]; exact Nat.ne_of_lt (blk_lt BK549.out) : gb549 ≠ gb566)); have n9_ := zA ((by rw [hg]; exact Nat.ne_of_gt (blk_lt BK549.out) : gb566 ≠ gb549)); have n10_ := zA ((by rw [hg]; exact Nat.ne_of_lt (blk_lt BK559.out) : gb559 ≠ gb566)); have n11_ := zA ((by rw [hg]; exact Nat.ne_of_gt (blk_lt BK559.out) : gb566 ≠ gb559)); clear HO555; clear HO562; clear BK549; clear BK559; clear HB; have HO555 := n0_; have HO562 := n1_; have BK549 := n2_; have BK559 := n3_; have HB := n4_; have BK566 := n5_; have GW566 := n6_; have GE566 := n7_; have NB549_566 := n8_; have NB566_549 := n9_; have NB559_566 := n10_; have NB566_559 := n11_; clear n0_ n1_ n2_ n3_ n4_ n5_ n6_ n7_ n8_ n9_ n10_ n11_; clear hb hbox hg; obtain ⟨Ao34, co34, eo34⟩ := Kd.V_slice HO562.out; subst eo34; have hnb35 := NB566_549.out; have hnc35 := NB549_566.out; have hnb36 := NB566_559.out; have hnc36 := NB559_566.out; have hcz37_0 : w33.cell? ⟨gb566, 0, none⟩ = some (.slice none 0 0) := (blk_cell BK566.out 0).trans rfl; have hcz37_1 : w33.cell? ⟨gb566, 1, none⟩ = some (.int .i64 0) := (blk_cell BK566.out 1).trans rfl; have hcz37_2 : w33.cell? ⟨gb566, 2, none⟩ = some (.int .i64 0) := (blk_cell BK566.out 2).trans rfl; have hfz37_0 := blk_frozen BK566.out 0; have hfz37_1 := blk_frozen BK566.out 1; have hfz37_2 := blk_frozen BK566.out 2))
    (try simp only [Act.put, sA, sB, sC])
    go_cut [100] (fun v100 wc => ∃ (kq : Nat) (x100_23 : Bool), v100 = .bool x100_23 ∧ Aside0 (reelkeeperlaw13_DriveLost.j1 kq a2 t558 x100_23 l0_0 a0_1 a0_2 t553 t556 t557 t560 t563 t564 = some r) ∧ Aside0 (kq ≤ kj5) ∧ Aside0 (Kd.V k41 41 wc w.heap.size (fun k_ => k_ ≠ gb549 ∧ k_ ≠ gb559 ∧ k_ ≠ gb566) (.slice Ao28 t553.length co28) t553) ∧ Aside0 (Kd.V k41 41 wc w.heap.size (fun k_ => k_ ≠ gb549 ∧ k_ ≠ gb559 ∧ k_ ≠ gb566) (.slice Ao34 t560.length co34) t560) ∧ Aside0 (wc.heap[gb549]? = some (.cells #[(.slice A0_0 l0_0.length c0_0), .int .i64 a0_1, .int .i64 a0_2] 24 (0, 0))) ∧ Aside0 (wc.heap[gb559]? = some (.cells #[(.slice Ao28 t553.length co28), .int .i64 t556, .int .i64 t557] 24 (0, 0))) ∧ Aside0 (wc.heap[gb566]? = some (.cells #[(.slice Ao34 t560.length co34), .int .i64 t563, .int .i64 t564] 24 (0, 0))) ∧ Aside0 (Below w.heap.size w wc))
    case first =>
     have H := HC24.out; clear HC24
     by_cases c38 : t565 = 0
     ·as_aux_lemma =>
      rw [if_pos c38] at H
      have c38b0 : (t565 == 0) = true := beq_iff_eq.mpr c38; have c38b1 : (t565 != 0) = false := bne_eq_false_iff_eq.mpr c38; clear c38
      (first | rw [c38b0] | (simp only [i64_w, i32_w]; rw [c38b0]) | skip)
      replace H := Option.bind_eq_some_iff.mp H; obtain ⟨t567, A390, H⟩ := H; replace H : (if t567 = true then (if (t560.length : Int) = (l0_0.length : Int) then (if 0 ≤ a0_1 then (if a0_1 < (t560.length : Int) then (if (((rd_T41 t560 a0_1).f1).length : Int) = a0_2 then (if ((rd_T41 t560 a0_1).f2 = true) then (reelkeeperlaw13_DriveLost.j1 kj5 a2 t558 (t564 != a0_2) l0_0 a0_1 a0_2 t553 t556 t557 t560 t563 t564) else (reelkeeperlaw13_DriveLost.j1 kj5 a2 t558 true l0_0 a0_1 a0_2 t553 t556 t557 t560 t563 t564)) else (reelkeeperlaw13_DriveLost.j1 kj5 a2 t558 true l0_0 a0_1 a0_2 t553 t556 t557 t560 t563 t564)) else (none)) else (none)) else (reelkeeperlaw13_DriveLost.j1 kj5 a2 t558 true l0_0 a0_1 a0_2 t553 t556 t557 t560 t563 t564)) else (reelkeeperlaw13_DriveLost.j1 kj5 a2 t558 true l0_0 a0_1 a0_2 t553 t556 t557 t560 t563 t564)) = some r := H; have A39 := zA A390; clear A390
      by_cases c40 : t567 = true
      ·subst c40
       have H1 : (if (t560.length : Int) = (l0_0.length : Int) then (if 0 ≤ a0_1 then (if a0_1 < (t560.length : Int) then (if (((rd_T41 t560 a0_1).f1).length : Int) = a0_2 then (if ((rd_T41 t560 a0_1).f2 = true) then (reelkeeperlaw13_DriveLost.j1 kj5 a2 t558 (t564 != a0_2) l0_0 a0_1 a0_2 t553 t556 t557 t560 t563 t564) else (reelkeeperlaw13_DriveLost.j1 kj5 a2 t558 true l0_0 a0_1 a0_2 t553 t556 t557 t560 t563 t564)) else (reelkeeperlaw13_DriveLost.j1 kj5 a2 t558 true l0_0 a0_1 a0_2 t553 t556 t557 t560 t563 t564)) else (none)) else (none)) else (reelkeeperlaw13_DriveLost.j1 kj5 a2 t558 true l0_0 a0_1 a0_2 t553 t556 t557 t560 t563 t564)) = some r := by rw [if_pos rfl] at H; exact H
       clear H; have H := H1; clear H1
       by_cases c41 : (t560.length : Int) = (l0_0.length : Int)
       ·as_aux_lemma =>
        rw [if_pos c41] at H
        have c41b0 : ((t560.length : Int) == (l0_0.length : Int)) = true := beq_iff_eq.mpr c41; have c41b1 : ((t560.length : Int) != (l0_0.length : Int)) = false := bne_eq_false_iff_eq.mpr c41
        have c41b2 : (t560.length == l0_0.length) = true := by first | simpa using c41 | (simp at c41 ⊢; omega)
        clear c41
        by_cases c42 : 0 ≤ a0_1
        ·as_aux_lemma =>
         rw [if_pos c42] at H
         have c42b0 : decide (0 ≤ a0_1) = true := decide_eq_true c42; clear c42
         by_cases c43 : a0_1 < (t560.length : Int)
         ·as_aux_lemma =>
          rw [if_pos c43] at H
          have c43b0 : decide (a0_1 < (t560.length : Int)) = true := decide_eq_true c43; clear c43
          by_cases c44 : (((rd_T41 t560 a0_1).f1).length : Int) = a0_2
          ·as_aux_lemma =>
           rw [if_pos c44] at H
           have c44b0 : ((((rd_T41 t560 a0_1).f1).length : Int) == a0_2) = true := beq_iff_eq.mpr c44; have c44b1 : ((((rd_T41 t560 a0_1).f1).length : Int) != a0_2) = false := bne_eq_false_iff_eq.mpr c44; clear c44; obtain ⟨bq45, hbq45⟩ : ∃ b_ : Bool, b_ = ((rd_T41 t560 a0_1).f2) := ⟨_, rfl⟩
           replace H : (if (bq45 = true) then (reelkeeperlaw13_DriveLost.j1 kj5 a2 t558 (t564 != a0_2) l0_0 a0_1 a0_2 t553 t556 t557 t560 t563 t564) else (reelkeeperlaw13_DriveLost.j1 kj5 a2 t558 true l0_0 a0_1 a0_2 t553 t556 t557 t560 t563 t564)) = some r := by rw [← hbq45] at H; exact H
           have Nbq45 := zA hbq45; clear hbq45
           by_cases c46 : (bq45 = true)
           ·subst c46
            have H1 : (reelkeeperlaw13_DriveLost.j1 kj5 a2 t558 (t564 != a0_2) l0_0 a0_1 a0_2 t553 t556 t557 t560 t563 t564) = some r := by rw [if_pos rfl] at H; exact H
            clear H; have H := H1; clear H1; have H' := zA H; clear H
            try go_wp2
            have n0_ : Aside0 (Kd.V k41 41 (((w33.setCell ⟨gb566, 0, none⟩ (.slice Ao34 t560.length co34)).setCell ⟨gb566, 1, none⟩ (.int .i64 t563)).setCell ⟨gb566, 2, none⟩ (.int .i64 t564)) w.heap.size (fun k_ => k_ ≠ gb549 ∧ k_ ≠ gb559 ∧ k_ ≠ gb566) (.slice Ao28 t553.length co28) t553) := ⟨by exact Kd.V_mono (Kd.V_far (p := ⟨gb566, 2, none⟩) (Kd.V_far (p := ⟨gb566, 1, none⟩) (Kd.V_far (p := ⟨gb566, 0, none⟩) (Kd.V_mono HO555.out (fun k_ hk => (⟨hk, hk.2⟩ : _ ∧ k_ ≠ gb566))) (fun _ hk => hk.2) (.slice Ao34 t560.length co34)) (fun _ hk => hk.2) (.int .i64 t563)) (fun _ hk => hk.2) (.int .i64 t564)) (fun _ hk => ⟨hk.1.1.1, ⟨hk.1.1.2, hk.1.2⟩⟩)⟩; have n1_ : Aside0 (Kd.V k41 41 (((w33.setCell ⟨gb566, 0, none⟩ (.slice Ao34 t560.length co34)).setCell ⟨gb566, 1, none⟩ (.int .i64 t563)).setCell ⟨gb566, 2, none⟩ (.int .i64 t564)) w.heap.size (fun k_ => k_ ≠ gb549 ∧ k_ ≠ gb559 ∧ k_ ≠ gb566) (.slice Ao34 t560.length co34) t560) := ⟨by exact Kd.V_mono (Kd.V_far (p := ⟨gb566, 2, none⟩) (Kd.V_far (p := ⟨gb566, 1, none⟩) (Kd.V_far (p := ⟨gb566, 0, none⟩) (Kd.V_mono HO562.out (fun k_ hk => (⟨hk, hk.2⟩ : _ ∧ k_ ≠ gb566))) (fun _ hk => hk.2) (.slice Ao34 t560.length co34)) (fun _ hk => hk.2) (.int .i64 t563)) (fun _ hk => hk.2) (.int .i64 t564)) (fun _ hk => ⟨hk.1.1.1, ⟨hk.1.1.2, hk.1.2⟩⟩)⟩; have n2_ : Aside0 ((((w33.setCell ⟨gb566, 0, none⟩ (.slice Ao34 t560.length co34)).setCell ⟨gb566, 1, none⟩ (.int .i64 t563)).setCell ⟨gb566, 2, none⟩ (.int .i64 t564)).heap[gb549]? = some (.cells #[.slice A0_0 l0_0.length c0_0, .int .i64 a0_1, .int .i64 a0_2] 24 (0, 0))) := ⟨by refine blk_far ?_ NB549_566.out _; refine blk_far ?_ NB549_566.out _; refine blk_far ?_ NB549_566.out _; exact BK549.out⟩; have n3_ : Aside0 ((((w33.setCell ⟨gb566, 0, none⟩ (.slice Ao34 t560.length co34)).setCell ⟨gb566, 1, none⟩ (.int .i64 t563)).setCell ⟨gb566, 2, none⟩ (.int .i64 t564)).heap[gb559]? = some (.cells #[.slice Ao28 t553.length co28, .int .i64 t556, .int .i64 t557] 24 (0, 0))) := ⟨by refine blk_far ?_ NB559_566.out _; refine blk_far ?_ NB559_566.out _; refine blk_far ?_ NB559_566.out _; exact BK559.out⟩; have n4_ : Aside0 ((((w33.setCell ⟨gb566, 0, none⟩ (.slice Ao34 t560.length co34)).setCell ⟨gb566, 1, none⟩ (.int .i64 t563)).setCell ⟨gb566, 2, none⟩ (.int .i64 t564)).heap[gb566]? = some (.cells #[.slice Ao34 t560.length co34, .int .i64 t563, .int .i64 t564] 24 (0, 0))) := ⟨by refine blk_put (cs := #[.slice Ao34 t560.length co34, .int .i64 t563, .int .i64 0]) ?_ 2 _ rfl; refine blk_put (cs := #[.slice Ao34 t560.length co34, .int .i64 0, .int .i64 0]) ?_ 1 _ rfl; refine blk_put (cs := #[.slice none 0 0, .int .i64 0, .int .i64 0]) ?_ 0 _ rfl; exact BK566.out⟩
            have n5_ : Aside0 (Below w.heap.size w (((w33.setCell ⟨gb566, 0, none⟩ (.slice Ao34 t560.length co34)).setCell ⟨gb566, 1, none⟩ (.int .i64 t563)).setCell ⟨gb566, 2, none⟩ (.int .i64 t564))) := ⟨by repeat (first | (with_reducible first | exact HB.out | apply bL | apply bP | apply bD | refine bS ?_ GE549.out | refine bS ?_ GE559.out | refine bS ?_ GE566.out) | exact HB.out)⟩
            (try clear HO555)
            (try clear HO562)
            (try clear BK549)
            (try clear BK559)
            (try clear BK566)
            (try clear HB)
            generalize (((w33.setCell ⟨gb566, 0, none⟩ (.slice Ao34 t560.length co34)).setCell ⟨gb566, 1, none⟩ (.int .i64 t563)).setCell ⟨gb566, 2, none⟩ (.int .i64 t564)) = w47 at n0_ n1_ n2_ n3_ n4_ n5_ ⊢
            have HO555 := n0_; have HO562 := n1_; have BK549 := n2_; have BK559 := n3_; have BK566 := n4_; have HB := n5_; clear n0_ n1_ n2_ n3_ n4_ n5_; have n0_ := zA (Kd.V_drew HO555.out); have n1_ := zA (Kd.V_drew HO562.out); have n2_ := zA (bW BK549.out); have n3_ := zA (bW BK559.out); have n4_ := zA (bW BK566.out); have n5_ := zA (bD HB.out); clear HO555; clear HO562; clear BK549; clear BK559; clear BK566; clear HB; have HO555 := n0_; have HO562 := n1_; have BK549 := n2_; have BK559 := n3_; have BK566 := n4_; have HB := n5_; clear n0_ n1_ n2_ n3_ n4_ n5_; have p568 : 0 ≤ (a0_1 : Int) := of_decide_eq_true (by assumption); have q568 : a0_1 < (t560.length : Int) := of_decide_eq_true (by assumption); obtain ⟨ad568, A568_1, c568_1, e568, hx568_0, hx568_1, hx568_2, hl568_1, hi568_1⟩ := at_T41 (Kd.V_reads' HO562.out).2.2 a0_1 p568 q568
            (try rw [← Nbq45.out] at hx568_2)
            cases e568; obtain ⟨ce568, hce568, hMe568, hcc568⟩ := Kd.V_get HO562.out z41 a0_1 p568 (by first | exact q568 | exact of_decide_eq_true (by assumption) | (have e_ := (Kd.V_reads' HO562.out).1; omega)); obtain ⟨ua568_1, uc568_1, rfl, ul568_1, ge568_1⟩ := k41_openF hMe568; have hv568_1 := hcc568 1 _ rfl
            rw [add_field _ _ 1 (by omega)] at hv568_1
            replace hv568_1 := Option.some.inj (hv568_1.symm.trans hx568_1)
            injection hv568_1 with hva_ hvn_ hvc_
            rw [hva_] at ge568_1
            rw [hvc_] at ul568_1
            have HL568_1 := zA (show Kd.V (Kd.slice 5 (Kd.int .u8)) 25 _ w.heap.size _ _ ((rd_T41 t560 a0_1).f1) from Kd.V_mk ul568_1 ge568_1); clear hva_ hvn_ hvc_ ge568_1 ul568_1; clear hcc568 hce568; have HR568_1 := zA hi568_1; have HC568_1 := zA hl568_1; clear hi568_1 hl568_1; replace p568 := eq_true p568; replace q568 := eq_true q568; have p569 : 0 ≤ (a0_1 : Int) := of_decide_eq_true (by assumption); have q569 : a0_1 < (t560.length : Int) := of_decide_eq_true (by assumption); obtain ⟨ad569, A569_1, c569_1, e569, hx569_0, hx569_1, hx569_2, hl569_1, hi569_1⟩ := at_T41 (Kd.V_reads' HO562.out).2.2 a0_1 p569 q569
            (try rw [← Nbq45.out] at hx569_2)
            obtain rfl : ad568 = ad569 := (by injection e569); obtain ⟨ce569, hce569, hMe569, hcc569⟩ := Kd.V_get HO562.out z41 a0_1 p569 (by first | exact q569 | exact of_decide_eq_true (by assumption) | (have e_ := (Kd.V_reads' HO562.out).1; omega)); obtain ⟨ua569_1, uc569_1, rfl, ul569_1, ge569_1⟩ := k41_openF hMe569; have hv569_1 := hcc569 1 _ rfl
            rw [add_field _ _ 1 (by omega)] at hv569_1
            replace hv569_1 := Option.some.inj (hv569_1.symm.trans hx569_1)
            injection hv569_1 with hva_ hvn_ hvc_
            rw [hva_] at ge569_1
            rw [hvc_] at ul569_1
            have HL569_1 := zA (show Kd.V (Kd.slice 5 (Kd.int .u8)) 25 _ w.heap.size _ _ ((rd_T41 t560 a0_1).f1) from Kd.V_mk ul569_1 ge569_1); clear hva_ hvn_ hvc_ ge569_1 ul569_1; clear hcc569 hce569; have HR569_1 := zA hi569_1; have HC569_1 := zA hl569_1; clear hi569_1 hl569_1; replace p569 := eq_true p569; replace q569 := eq_true q569; have ea_ := Option.some.inj (hx568_1.symm.trans hx569_1)
            injection ea_ with ea_ en_ ec_
            subst ea_; subst ec_; clear en_; refine start_ (n := 46) (S := fun w' => w'.cell? ⟨gb566, 0, none⟩ = some (.slice (some ad568) t560.length co34) ∧ w'.cell? ⟨gb566, 1, none⟩ = some (.int .i64 t563) ∧ w'.cell? ⟨gb566, 2, none⟩ = some (.int .i64 t564) ∧ w'.cell? ⟨gb549, 0, none⟩ = some (.slice A0_0 l0_0.length c0_0) ∧ w'.cell? ⟨gb549, 1, none⟩ = some (.int .i64 a0_1) ∧ w'.cell? ⟨gb549, 2, none⟩ = some (.int .i64 a0_2) ∧ w'.cell? (ad568.add ((a0_1).toNat * 3)) = some (.int .i64 ((rd_T41 t560 a0_1).f0)) ∧ w'.cell? ⟨(ad568.add ((a0_1).toNat * 3)).block, (ad568.add ((a0_1).toNat * 3)).off + 1, none⟩ = some (.slice A568_1 ((rd_T41 t560 a0_1).f1).length c568_1) ∧ w'.cell? ⟨(ad568.add ((a0_1).toNat * 3)).block, (ad568.add ((a0_1).toNat * 3)).off + 2, none⟩ = some (.bool true) ∧ w'.cell? (ad568.add ((a0_1).toNat * 3)) = some (.int .i64 ((rd_T41 t560 a0_1).f0)) ∧ w'.cell? ⟨(ad568.add ((a0_1).toNat * 3)).block, (ad568.add ((a0_1).toNat * 3)).off + 1, none⟩ = some (.slice A568_1 ((rd_T41 t560 a0_1).f1).length c568_1) ∧ w'.cell? ⟨(ad568.add ((a0_1).toNat * 3)).block, (ad568.add ((a0_1).toNat * 3)).off + 2, none⟩ = some (.bool true)) (ds := []) (bs 46 0) (by kernel_rfl) rfl rfl ⟨(blk_cell BK566.out 0).trans rfl, (blk_cell BK566.out 1).trans rfl, (blk_cell BK566.out 2).trans rfl, (blk_cell BK549.out 0).trans rfl, (blk_cell BK549.out 1).trans rfl, (blk_cell BK549.out 2).trans rfl, hx568_0, hx568_1, hx568_2, hx569_0, hx569_1, hx569_2⟩ (fun hHeld => ?_); refine with_tabW reelkeeperlaw13_DriveLost.tab7 reelkeeperlaw13_DriveLost.bits7 (fun HT_ HW_ => ?_)
            generalize w47.drew = w48 at HO555 HO562 BK549 BK559 BK566 HB HL568_1 HL569_1 HR568_1 HR569_1 hx568_0 hx568_1 hx568_2 hx569_0 hx569_1 hx569_2 hHeld ⊢
            refine pure_ (i := 0) (N := some 55) (v := ?_) (a' := ?_) (bs 46 1) rfl rfl (any_of HT_.out (by kernel_rfl)) (fun _ _ _ h => h) (Or.inl ⟨by rfl, ?_⟩) ?_ ?_; rotate_left
            ·intro w'
             go_simp
             with_reducible rfl
            rotate_left
            ·simp only [Act.put, sA, sB, sC, i64_w, i32_w]
             rfl
            refine pure_ (i := 1) (N := some 56) (v := ?_) (a' := ?_) (bs 46 3) rfl rfl (any_of HT_.out (by kernel_rfl)) (fun _ _ _ h => h) (Or.inl ⟨by rfl, ?_⟩) ?_ ?_; rotate_left
            ·intro w'
             go_simp
             with_reducible rfl
            rotate_left
            ·simp only [Act.put, sA, sB, sC, i64_w, i32_w]
             rfl
            refine pure_ (i := 2) (N := some 57) (v := ?_) (a' := ?_) (bs 46 7) rfl rfl (any_of HT_.out (by kernel_rfl)) (fun _ _ _ h => h) (Or.inl ⟨by rfl, ?_⟩) ?_ ?_; rotate_left
            ·intro w'
             go_simp
             with_reducible rfl
            rotate_left
            ·simp only [Act.put, sA, sB, sC, i64_w, i32_w]
             rfl
            refine take_ (i := 3) (N := some 58) (v := ?_) (a' := ?_) (bs 46 15) rfl rfl (take_ofW HT_.out HW_.out (by kernel_rfl)) (fun _ _ _ h => h) (Or.inl ⟨by rfl, ?_⟩) hHeld ?_ ?_; rotate_left
            ·rintro w' ⟨s0, s1, s2, s3, s4, s5, s6, s7, s8, s9, s10, s11⟩
             go_simp
             with_reducible rfl
            rotate_left
            ·simp only [Act.put, sA, sB, sC, i64_w, i32_w]
             rfl
            refine one_ (i := 4) (N := some 59) (bs 46 31) rfl rfl (one_of HT_.out (by kernel_rfl)) (by decide) (fun K hK => ?_); refine goes_ Try.func27 (by kernel_rfl) rfl #[.agg #[.slice (some ad568) t560.length co34, .int .i64 t563, .int .i64 t564]] (by rfl) rfl rfl (by (try simp only [List.map_toArray, List.map_cons, List.map_nil]); first | done | rfl | (simp only [List.length_drop, List.length_take]; rfl)) ?_
            with_reducible refine (drive_May.calls _ _ t560 t563 t564 true _ ?side1 ?side2 A39.out).mono ?_
            (case side1 => repeat (first | exact (Kd.V_reads' HO562.out).2.2 | (with_reducible refine Kd.C_alloc ?_ _) | (with_reducible refine Kd.C_drewN ?_ _) | (with_reducible refine Kd.C_drew ?_)))
            (case side2 => exact (Kd.V_reads' HO562.out).2.1)
            rintro e w49 ⟨rfl, hb⟩
            have HS6_ := (hb.cell (World.block_lt_of_cell? _ _ (hHeld.2.2.2.2.2.2.1))).trans (hHeld.2.2.2.2.2.2.1); have HS7_ := (hb.cell (World.block_lt_of_cell? _ _ (hHeld.2.2.2.2.2.2.2.1))).trans (hHeld.2.2.2.2.2.2.2.1); have HS8_ := (hb.cell (World.block_lt_of_cell? _ _ (hHeld.2.2.2.2.2.2.2.2.1))).trans (hHeld.2.2.2.2.2.2.2.2.1); have HS9_ := (hb.cell (World.block_lt_of_cell? _ _ (hHeld.2.2.2.2.2.2.2.2.2.1))).trans (hHeld.2.2.2.2.2.2.2.2.2.1); have HS10_ := (hb.cell (World.block_lt_of_cell? _ _ (hHeld.2.2.2.2.2.2.2.2.2.2.1))).trans (hHeld.2.2.2.2.2.2.2.2.2.2.1); have HS11_ := (hb.cell (World.block_lt_of_cell? _ _ (hHeld.2.2.2.2.2.2.2.2.2.2.2))).trans (hHeld.2.2.2.2.2.2.2.2.2.2.2); refine ⟨_, rfl, ?_⟩; have n0_ := zA (Kd.V_below HO555.out hb); have n1_ := zA (Kd.V_below HO562.out hb); have n2_ := zA (bK BK549.out hb); have n3_ := zA (bK BK559.out hb); have n4_ := zA (bK BK566.out hb); have n5_ := zA (below_step (by repeat (first | (with_reducible first | exact HB.out | apply bL | apply bP | apply bD | refine bS ?_ GE549.out | refine bS ?_ GE559.out | refine bS ?_ GE566.out) | exact HB.out)) hb); clear HO555; clear HO562; clear BK549; clear BK559; clear BK566; clear HB; have HO555 := n0_; have HO562 := n1_; have BK549 := n2_; have BK559 := n3_; have BK566 := n4_; have HB := n5_; clear n0_ n1_ n2_ n3_ n4_ n5_
            (try clear hb)
            (try clear hb2)
            (try clear hk)
            (try clear hi)
            refine hK.out _ _ ⟨(blk_cell BK566.out 0).trans rfl, (blk_cell BK566.out 1).trans rfl, (blk_cell BK566.out 2).trans rfl, (blk_cell BK549.out 0).trans rfl, (blk_cell BK549.out 1).trans rfl, (blk_cell BK549.out 2).trans rfl, HS6_, HS7_, HS8_, HS9_, HS10_, HS11_⟩ (fun hHeld => ?_); clear hK K; refine norm_ (a' := ?_) ?_ ?_; rotate_left
            ·show Act.put _ (some 59) _ = _
             simp only [Act.put, sA, sB, sC, i64_w, i32_w]
             rfl
            refine pure_ (i := 5) (N := some 60) (v := ?_) (a' := ?_) (bs 46 63) rfl rfl (any_of HT_.out (by kernel_rfl)) (fun _ _ _ h => h) (Or.inl ⟨by rfl, ?_⟩) ?_ ?_; rotate_left
            ·intro w'
             go_simp
             with_reducible rfl
            rotate_left
            ·simp only [Act.put, sA, sB, sC, i64_w, i32_w]
             rfl
            refine pure_ (i := 6) (N := some 61) (v := ?_) (a' := ?_) (bs 46 127) rfl rfl (any_of HT_.out (by kernel_rfl)) (fun _ _ _ h => h) (Or.inl ⟨by rfl, ?_⟩) ?_ ?_; rotate_left
            ·intro w'
             go_simp
             with_reducible rfl
            rotate_left
            ·simp only [Act.put, sA, sB, sC, i64_w, i32_w]
             rfl
            refine pure_ (i := 7) (N := some 62) (v := ?_) (a' := ?_) (bs 46 255) rfl rfl (any_of HT_.out (by kernel_rfl)) (fun _ _ _ h => h) (Or.inl ⟨by rfl, ?_⟩) ?_ ?_; rotate_left
            ·intro w'
             go_simp
             with_reducible rfl
            rotate_left
            ·simp only [Act.put, sA, sB, sC, i64_w, i32_w]
             rfl
            refine pure_ (i := 8) (N := some 63) (v := ?_) (a' := ?_) (bs 46 511) rfl rfl (any_of HT_.out (by kernel_rfl)) (fun _ _ _ h => h) (Or.inl ⟨by rfl, ?_⟩) ?_ ?_; rotate_left
            ·intro w'
             go_simp
             with_reducible rfl
            rotate_left
            ·simp only [Act.put, sA, sB, sC, i64_w, i32_w]
             rfl
            refine pure_ (i := 11) (N := some 66) (v := ?_) (a' := ?_) (bs 46 2559) rfl rfl (any_of HT_.out (by kernel_rfl)) (fun _ _ _ h => h) (Or.inl ⟨by rfl, ?_⟩) ?_ ?_; rotate_left
            ·intro w'
             go_simp
             with_reducible rfl
            rotate_left
            ·simp only [Act.put, sA, sB, sC, i64_w, i32_w]
             rfl
            refine take_ (i := 9) (N := some 64) (v := ?_) (a' := ?_) (bs 46 3071) rfl rfl (take_ofW HT_.out HW_.out (by kernel_rfl)) (fun _ _ _ h => h) (Or.inl ⟨by rfl, ?_⟩) hHeld ?_ ?_; rotate_left
            ·rintro w' ⟨s0, s1, s2, s3, s4, s5, s6, s7, s8, s9, s10, s11⟩
             go_simp
             with_reducible rfl
            rotate_left
            ·simp only [Act.put, sA, sB, sC, i64_w, i32_w]
             rfl
            refine pure_ (i := 10) (N := some 65) (v := ?_) (a' := ?_) (bs 46 4095) rfl rfl (any_of HT_.out (by kernel_rfl)) (fun _ _ _ h => h) (Or.inl ⟨by rfl, ?_⟩) ?_ ?_; rotate_left
            ·intro w'
             go_simp
             with_reducible rfl
            rotate_left
            ·simp only [Act.put, sA, sB, sC, i64_w, i32_w]
             rfl
            refine take_ (i := 12) (N := some 67) (v := ?_) (a' := ?_) (bs 46 8191) rfl rfl (take_ofW HT_.out HW_.out (by kernel_rfl)) (fun _ _ _ h => h) (Or.inl ⟨by rfl, ?_⟩) hHeld ?_ ?_; rotate_left
            ·rintro w' ⟨s0, s1, s2, s3, s4, s5, s6, s7, s8, s9, s10, s11⟩
             go_simp
             with_reducible rfl
            rotate_left
            ·simp only [Act.put, sA, sB, sC, i64_w, i32_w]
             rfl
            refine pure_ (i := 13) (N := some 68) (v := ?_) (a' := ?_) (bs 46 16383) rfl rfl (any_of HT_.out (by kernel_rfl)) (fun _ _ _ h => h) (Or.inl ⟨by rfl, ?_⟩) ?_ ?_; rotate_left
            ·intro w'
             go_simp
             with_reducible rfl
            rotate_left
            ·simp only [Act.put, sA, sB, sC, i64_w, i32_w]
             rfl
            refine pure_ (i := 14) (N := some 69) (v := ?_) (a' := ?_) (bs 46 32767) rfl rfl (any_of HT_.out (by kernel_rfl)) (fun _ _ _ h => h) (Or.inl ⟨by rfl, ?_⟩) ?_ ?_; rotate_left
            ·intro w'
             go_simp
             with_reducible rfl
            rotate_left
            ·simp only [Act.put, sA, sB, sC, i64_w, i32_w]
             rfl
            refine pure_ (i := 15) (N := some 70) (v := ?_) (a' := ?_) (bs 46 65535) rfl rfl (any_of HT_.out (by kernel_rfl)) (fun _ _ _ h => h) (Or.inl ⟨by rfl, ?_⟩) ?_ ?_; rotate_left
            ·intro w'
             go_simp
             with_reducible rfl
            rotate_left
            ·simp only [Act.put, sA, sB, sC, i64_w, i32_w]
             rfl
            refine pure_ (i := 16) (N := some 71) (v := ?_) (a' := ?_) (bs 46 131071) rfl rfl (any_of HT_.out (by kernel_rfl)) (fun _ _ _ h => h) (Or.inl ⟨by rfl, ?_⟩) ?_ ?_; rotate_left
            ·intro w'
             go_simp
             with_reducible rfl
            rotate_left
            ·simp only [Act.put, sA, sB, sC, i64_w, i32_w]
             rfl
            refine pure_ (i := 17) (N := some 72) (v := ?_) (a' := ?_) (bs 46 262143) rfl rfl (any_of HT_.out (by kernel_rfl)) (fun _ _ _ h => h) (Or.inl ⟨by rfl, ?_⟩) ?_ ?_; rotate_left
            ·intro w'
             go_simp
             with_reducible rfl
            rotate_left
            ·simp only [Act.put, sA, sB, sC, i64_w, i32_w]
             rfl
            refine pure_ (i := 19) (N := some 74) (v := ?_) (a' := ?_) (bs 46 786431) rfl rfl (any_of HT_.out (by kernel_rfl)) (fun _ _ _ h => h) (Or.inl ⟨by rfl, ?_⟩) ?_ ?_; rotate_left
            ·intro w'
             go_simp
             with_reducible rfl
            rotate_left
            ·simp only [Act.put, sA, sB, sC, i64_w, i32_w]
             rfl
            refine pure_ (i := 25) (N := some 80) (v := ?_) (a' := ?_) (bs 46 34340863) rfl rfl (any_of HT_.out (by kernel_rfl)) (fun _ _ _ h => h) (Or.inl ⟨by rfl, ?_⟩) ?_ ?_; rotate_left
            ·intro w'
             go_simp
             with_reducible rfl
            rotate_left
            ·simp only [Act.put, sA, sB, sC, i64_w, i32_w]
             rfl
            refine take_ (i := 18) (N := some 73) (v := ?_) (a' := ?_) (bs 46 34603007) rfl rfl (take_ofW HT_.out HW_.out (by kernel_rfl)) (fun _ _ _ h => h) (Or.inl ⟨by rfl, ?_⟩) hHeld ?_ ?_; rotate_left
            ·rintro w' ⟨s0, s1, s2, s3, s4, s5, s6, s7, s8, s9, s10, s11⟩
             go_simp
             with_reducible rfl
            rotate_left
            ·simp only [Act.put, sA, sB, sC, i64_w, i32_w]
             rfl
            refine take_ (i := 20) (N := some 75) (v := ?_) (a' := ?_) (bs 46 35651583) rfl rfl (take_ofW HT_.out HW_.out (by kernel_rfl)) (fun _ _ _ h => h) (Or.inl ⟨by rfl, ?_⟩) hHeld ?_ ?_; rotate_left
            ·rintro w' ⟨s0, s1, s2, s3, s4, s5, s6, s7, s8, s9, s10, s11⟩
             go_simp
             with_reducible rfl
            rotate_left
            ·simp only [Act.put, sA, sB, sC, i64_w, i32_w]
             rfl
            refine pure_ (i := 21) (N := some 76) (v := ?_) (a' := ?_) (bs 46 37748735) rfl rfl (any_of HT_.out (by kernel_rfl)) (fun _ _ _ h => h) (Or.inl ⟨by rfl, ?_⟩) ?_ ?_; rotate_left
            ·intro w'
             go_simp
             with_reducible rfl
            rotate_left
            ·simp only [Act.put, sA, sB, sC, i64_w, i32_w]
             rfl
            refine pure_ (i := 22) (N := some 77) (v := ?_) (a' := ?_) (bs 46 41943039) rfl rfl (any_of HT_.out (by kernel_rfl)) (fun _ _ _ h => h) (Or.inl ⟨by rfl, ?_⟩) ?_ ?_; rotate_left
            ·intro w'
             go_simp
             with_reducible rfl
            rotate_left
            ·simp only [Act.put, sA, sB, sC, i64_w, i32_w]
             rfl
            refine take_ (i := 23) (N := some 78) (v := ?_) (a' := ?_) (bs 46 50331647) rfl rfl (take_ofW HT_.out HW_.out (by kernel_rfl)) (fun _ _ _ h => h) (Or.inl ⟨by rfl, ?_⟩) hHeld ?_ ?_; rotate_left
            ·rintro w' ⟨s0, s1, s2, s3, s4, s5, s6, s7, s8, s9, s10, s11⟩
             go_simp
             with_reducible rfl
            rotate_left
            ·simp only [Act.put, sA, sB, sC, i64_w, i32_w]
             rfl
            refine pure_ (i := 24) (N := some 79) (v := ?_) (a' := ?_) (bs 46 67108863) rfl rfl (any_of HT_.out (by kernel_rfl)) (fun _ _ _ h => h) (Or.inl ⟨by rfl, ?_⟩) ?_ ?_; rotate_left
            ·intro w'
             go_simp
             with_reducible rfl
            rotate_left
            ·simp only [Act.put, sA, sB, sC, i64_w, i32_w]
             rfl
            refine take_ (i := 26) (N := some 81) (v := ?_) (a' := ?_) (bs 46 134217727) rfl rfl (take_ofW HT_.out HW_.out (by kernel_rfl)) (fun _ _ _ h => h) (Or.inl ⟨by rfl, ?_⟩) hHeld ?_ ?_; rotate_left
            ·rintro w' ⟨s0, s1, s2, s3, s4, s5, s6, s7, s8, s9, s10, s11⟩
             go_simp
             with_reducible rfl
            rotate_left
            ·simp only [Act.put, sA, sB, sC, i64_w, i32_w]
             rfl
            refine pure_ (i := 27) (N := some 82) (v := ?_) (a' := ?_) (bs 46 268435455) rfl rfl (any_of HT_.out (by kernel_rfl)) (fun _ _ _ h => h) (Or.inl ⟨by rfl, ?_⟩) ?_ ?_; rotate_left
            ·intro w'
             go_simp
             with_reducible rfl
            rotate_left
            ·simp only [Act.put, sA, sB, sC, i64_w, i32_w]
             rfl
            refine pure_ (i := 28) (N := some 83) (v := ?_) (a' := ?_) (bs 46 536870911) rfl rfl (any_of HT_.out (by kernel_rfl)) (fun _ _ _ h => h) (Or.inl ⟨by rfl, ?_⟩) ?_ ?_; rotate_left
            ·intro w'
             go_simp
             with_reducible rfl
            rotate_left
            ·simp only [Act.put, sA, sB, sC, i64_w, i32_w]
             rfl
            refine pure_ (i := 29) (N := some 84) (v := ?_) (a' := ?_) (bs 46 1073741823) rfl rfl (any_of HT_.out (by kernel_rfl)) (fun _ _ _ h => h) (Or.inl ⟨by rfl, ?_⟩) ?_ ?_; rotate_left
            ·intro w'
             go_simp
             with_reducible rfl
            rotate_left
            ·simp only [Act.put, sA, sB, sC, i64_w, i32_w]
             rfl
            refine pure_ (i := 30) (N := some 85) (v := ?_) (a' := ?_) (bs 46 2147483647) rfl rfl (any_of HT_.out (by kernel_rfl)) (fun _ _ _ h => h) (Or.inl ⟨by rfl, ?_⟩) ?_ ?_; rotate_left
            ·intro w'
             go_simp
             with_reducible rfl
            rotate_left
            ·simp only [Act.put, sA, sB, sC, i64_w, i32_w]
             rfl
            refine pure_ (i := 32) (N := some 87) (v := ?_) (a' := ?_) (bs 46 6442450943) rfl rfl (any_of HT_.out (by kernel_rfl)) (fun _ _ _ h => h) (Or.inl ⟨by rfl, ?_⟩) ?_ ?_; rotate_left
            ·intro w'
             go_simp
             with_reducible rfl
            rotate_left
            ·simp only [Act.put, sA, sB, sC, i64_w, i32_w]
             rfl
            refine take_ (i := 31) (N := some 86) (v := ?_) (a' := ?_) (bs 46 8589934591) rfl rfl (take_ofW HT_.out HW_.out (by kernel_rfl)) (fun _ _ _ h => h) (Or.inl ⟨by rfl, ?_⟩) hHeld ?_ ?_; rotate_left
            ·rintro w' ⟨s0, s1, s2, s3, s4, s5, s6, s7, s8, s9, s10, s11⟩
             go_simp
             with_reducible rfl
            rotate_left
            ·simp only [Act.put, sA, sB, sC, i64_w, i32_w]
             rfl
            refine take_ (i := 33) (N := some 88) (v := ?_) (a' := ?_) (bs 46 17179869183) rfl rfl (take_ofW HT_.out HW_.out (by kernel_rfl)) (fun _ _ _ h => h) (Or.inl ⟨by rfl, ?_⟩) hHeld ?_ ?_; rotate_left
            ·rintro w' ⟨s0, s1, s2, s3, s4, s5, s6, s7, s8, s9, s10, s11⟩
             go_simp
             with_reducible rfl
            rotate_left
            ·simp only [Act.put, sA, sB, sC, i64_w, i32_w]
             rfl
            refine pure_ (i := 34) (N := some 89) (v := ?_) (a' := ?_) (bs 46 34359738367) rfl rfl (any_of HT_.out (by kernel_rfl)) (fun _ _ _ h => h) (Or.inl ⟨by rfl, ?_⟩) ?_ ?_; rotate_left
            ·intro w'
             go_simp
             with_reducible rfl
            rotate_left
            ·simp only [Act.put, sA, sB, sC, i64_w, i32_w]
             rfl
            refine pure_ (i := 35) (N := some 90) (v := ?_) (a' := ?_) (bs 46 68719476735) rfl rfl (any_of HT_.out (by kernel_rfl)) (fun _ _ _ h => h) (Or.inl ⟨by rfl, ?_⟩) ?_ ?_; rotate_left
            ·intro w'
             go_simp
             with_reducible rfl
            rotate_left
            ·simp only [Act.put, sA, sB, sC, i64_w, i32_w]
             rfl
            refine take_ (i := 36) (N := some 91) (v := ?_) (a' := ?_) (bs 46 137438953471) rfl rfl (take_ofW HT_.out HW_.out (by kernel_rfl)) (fun _ _ _ h => h) (Or.inl ⟨by rfl, ?_⟩) hHeld ?_ ?_; rotate_left
            ·rintro w' ⟨s0, s1, s2, s3, s4, s5, s6, s7, s8, s9, s10, s11⟩
             go_simp
             with_reducible rfl
            rotate_left
            ·simp only [Act.put, sA, sB, sC, i64_w, i32_w]
             rfl
            refine pure_ (i := 37) (N := some 92) (v := ?_) (a' := ?_) (bs 46 274877906943) rfl rfl (any_of HT_.out (by kernel_rfl)) (fun _ _ _ h => h) (Or.inl ⟨by rfl, ?_⟩) ?_ ?_; rotate_left
            ·intro w'
             go_simp
             with_reducible rfl
            rotate_left
            ·simp only [Act.put, sA, sB, sC, i64_w, i32_w]
             rfl
            refine pure_ (i := 38) (N := some 93) (v := ?_) (a' := ?_) (bs 46 549755813887) rfl rfl (any_of HT_.out (by kernel_rfl)) (fun _ _ _ h => h) (Or.inl ⟨by rfl, ?_⟩) ?_ ?_; rotate_left
            ·intro w'
             go_simp
             with_reducible rfl
            rotate_left
            ·simp only [Act.put, sA, sB, sC, i64_w, i32_w]
             rfl
            refine pure_ (i := 39) (N := some 94) (v := ?_) (a' := ?_) (bs 46 1099511627775) rfl rfl (any_of HT_.out (by kernel_rfl)) (fun _ _ _ h => h) (Or.inl ⟨by rfl, ?_⟩) ?_ ?_; rotate_left
            ·intro w'
             go_simp
             with_reducible rfl
            rotate_left
            ·simp only [Act.put, sA, sB, sC, i64_w, i32_w]
             rfl
            refine pure_ (i := 40) (N := some 95) (v := ?_) (a' := ?_) (bs 46 2199023255551) rfl rfl (any_of HT_.out (by kernel_rfl)) (fun _ _ _ h => h) (Or.inl ⟨by rfl, ?_⟩) ?_ ?_; rotate_left
            ·intro w'
             go_simp
             with_reducible rfl
            rotate_left
            ·simp only [Act.put, sA, sB, sC, i64_w, i32_w]
             rfl
            refine pure_ (i := 42) (N := some 97) (v := ?_) (a' := ?_) (bs 46 6597069766655) rfl rfl (any_of HT_.out (by kernel_rfl)) (fun _ _ _ h => h) (Or.inl ⟨by rfl, ?_⟩) ?_ ?_; rotate_left
            ·intro w'
             go_simp
             with_reducible rfl
            rotate_left
            ·simp only [Act.put, sA, sB, sC, i64_w, i32_w]
             rfl
            refine take_ (i := 41) (N := some 96) (v := ?_) (a' := ?_) (bs 46 8796093022207) rfl rfl (take_ofW HT_.out HW_.out (by kernel_rfl)) (fun _ _ _ h => h) (Or.inl ⟨by rfl, ?_⟩) hHeld ?_ ?_; rotate_left
            ·rintro w' ⟨s0, s1, s2, s3, s4, s5, s6, s7, s8, s9, s10, s11⟩
             go_simp
             with_reducible rfl
            rotate_left
            ·simp only [Act.put, sA, sB, sC, i64_w, i32_w]
             rfl
            refine take_ (i := 43) (N := some 98) (v := ?_) (a' := ?_) (bs 46 17592186044415) rfl rfl (take_ofW HT_.out HW_.out (by kernel_rfl)) (fun _ _ _ h => h) (Or.inl ⟨by rfl, ?_⟩) hHeld ?_ ?_; rotate_left
            ·rintro w' ⟨s0, s1, s2, s3, s4, s5, s6, s7, s8, s9, s10, s11⟩
             go_simp
             with_reducible rfl
            rotate_left
            ·simp only [Act.put, sA, sB, sC, i64_w, i32_w]
             rfl
            refine pure_ (i := 44) (N := some 99) (v := ?_) (a' := ?_) (bs 46 35184372088831) rfl rfl (any_of HT_.out (by kernel_rfl)) (fun _ _ _ h => h) (Or.inl ⟨by rfl, ?_⟩) ?_ ?_; rotate_left
            ·intro w'
             go_simp
             with_reducible rfl
            rotate_left
            ·simp only [Act.put, sA, sB, sC, i64_w, i32_w]
             rfl
            refine pure_ (i := 45) (N := some 100) (v := ?_) (a' := ?_) (bs 46 70368744177663) rfl rfl (any_of HT_.out (by kernel_rfl)) (fun _ _ _ h => h) (Or.inl ⟨by rfl, ?_⟩) ?_ ?_; rotate_left
            ·intro w'
             go_simp
             with_reducible rfl
            rotate_left
            ·simp only [Act.put, sA, sB, sC, i64_w, i32_w]
             rfl
            refine done_ (done_of HT_.out (by kernel_rfl)) ?_
            try go_wp2
            go_meet
            case rel => exact ⟨_, ((t564 != a0_2)), (by first | rfl | (simp; done) | (simp [*]; done)), H', ⟨by have := HJ5.out; first | omega | exact Nat.le_refl _⟩, ⟨by exact HO555.out⟩, ⟨by exact HO562.out⟩, ⟨by exact BK549.out⟩, ⟨by exact BK559.out⟩, ⟨by exact BK566.out⟩, ⟨by repeat (first | (with_reducible first | exact HB.out | apply bL | apply bP | apply bD | refine bS ?_ GE549.out | refine bS ?_ GE559.out | refine bS ?_ GE566.out) | exact HB.out)⟩⟩
           ·replace c46 := Bool.eq_false_iff.mpr c46
            subst c46
            have H1 : (reelkeeperlaw13_DriveLost.j1 kj5 a2 t558 true l0_0 a0_1 a0_2 t553 t556 t557 t560 t563 t564) = some r := by rw [if_neg (show ¬ (false = true) by decide)] at H; exact H
            clear H; have H := H1; clear H1; have H' := zA H; clear H
            try go_wp2
            have n0_ : Aside0 (Kd.V k41 41 (((w33.setCell ⟨gb566, 0, none⟩ (.slice Ao34 t560.length co34)).setCell ⟨gb566, 1, none⟩ (.int .i64 t563)).setCell ⟨gb566, 2, none⟩ (.int .i64 t564)) w.heap.size (fun k_ => k_ ≠ gb549 ∧ k_ ≠ gb559 ∧ k_ ≠ gb566) (.slice Ao28 t553.length co28) t553) := ⟨by exact Kd.V_mono (Kd.V_far (p := ⟨gb566, 2, none⟩) (Kd.V_far (p := ⟨gb566, 1, none⟩) (Kd.V_far (p := ⟨gb566, 0, none⟩) (Kd.V_mono HO555.out (fun k_ hk => (⟨hk, hk.2⟩ : _ ∧ k_ ≠ gb566))) (fun _ hk => hk.2) (.slice Ao34 t560.length co34)) (fun _ hk => hk.2) (.int .i64 t563)) (fun _ hk => hk.2) (.int .i64 t564)) (fun _ hk => ⟨hk.1.1.1, ⟨hk.1.1.2, hk.1.2⟩⟩)⟩; have n1_ : Aside0 (Kd.V k41 41 (((w33.setCell ⟨gb566, 0, none⟩ (.slice Ao34 t560.length co34)).setCell ⟨gb566, 1, none⟩ (.int .i64 t563)).setCell ⟨gb566, 2, none⟩ (.int .i64 t564)) w.heap.size (fun k_ => k_ ≠ gb549 ∧ k_ ≠ gb559 ∧ k_ ≠ gb566) (.slice Ao34 t560.length co34) t560) := ⟨by exact Kd.V_mono (Kd.V_far (p := ⟨gb566, 2, none⟩) (Kd.V_far (p := ⟨gb566, 1, none⟩) (Kd.V_far (p := ⟨gb566, 0, none⟩) (Kd.V_mono HO562.out (fun k_ hk => (⟨hk, hk.2⟩ : _ ∧ k_ ≠ gb566))) (fun _ hk => hk.2) (.slice Ao34 t560.length co34)) (fun _ hk => hk.2) (.int .i64 t563)) (fun _ hk => hk.2) (.int .i64 t564)) (fun _ hk => ⟨hk.1.1.1, ⟨hk.1.1.2, hk.1.2⟩⟩)⟩; have n2_ : Aside0 ((((w33.setCell ⟨gb566, 0, none⟩ (.slice Ao34 t560.length co34)).setCell ⟨gb566, 1, none⟩ (.int .i64 t563)).setCell ⟨gb566, 2, none⟩ (.int .i64 t564)).heap[gb549]? = some (.cells #[.slice A0_0 l0_0.length c0_0, .int .i64 a0_1, .int .i64 a0_2] 24 (0, 0))) := ⟨by refine blk_far ?_ NB549_566.out _; refine blk_far ?_ NB549_566.out _; refine blk_far ?_ NB549_566.out _; exact BK549.out⟩; have n3_ : Aside0 ((((w33.setCell ⟨gb566, 0, none⟩ (.slice Ao34 t560.length co34)).setCell ⟨gb566, 1, none⟩ (.int .i64 t563)).setCell ⟨gb566, 2, none⟩ (.int .i64 t564)).heap[gb559]? = some (.cells #[.slice Ao28 t553.length co28, .int .i64 t556, .int .i64 t557] 24 (0, 0))) := ⟨by refine blk_far ?_ NB559_566.out _; refine blk_far ?_ NB559_566.out _; refine blk_far ?_ NB559_566.out _; exact BK559.out⟩; have n4_ : Aside0 ((((w33.setCell ⟨gb566, 0, none⟩ (.slice Ao34 t560.length co34)).setCell ⟨gb566, 1, none⟩ (.int .i64 t563)).setCell ⟨gb566, 2, none⟩ (.int .i64 t564)).heap[gb566]? = some (.cells #[.slice Ao34 t560.length co34, .int .i64 t563, .int .i64 t564] 24 (0, 0))) := ⟨by refine blk_put (cs := #[.slice Ao34 t560.length co34, .int .i64 t563, .int .i64 0]) ?_ 2 _ rfl; refine blk_put (cs := #[.slice Ao34 t560.length co34, .int .i64 0, .int .i64 0]) ?_ 1 _ rfl; refine blk_put (cs := #[.slice none 0 0, .int .i64 0, .int .i64 0]) ?_ 0 _ rfl; exact BK566.out⟩
            have n5_ : Aside0 (Below w.heap.size w (((w33.setCell ⟨gb566, 0, none⟩ (.slice Ao34 t560.length co34)).setCell ⟨gb566, 1, none⟩ (.int .i64 t563)).setCell ⟨gb566, 2, none⟩ (.int .i64 t564))) := ⟨by repeat (first | (with_reducible first | exact HB.out | apply bL | apply bP | apply bD | refine bS ?_ GE549.out | refine bS ?_ GE559.out | refine bS ?_ GE566.out) | exact HB.out)⟩
            (try clear HO555)
            (try clear HO562)
            (try clear BK549)
            (try clear BK559)
            (try clear BK566)
            (try clear HB)
            generalize (((w33.setCell ⟨gb566, 0, none⟩ (.slice Ao34 t560.length co34)).setCell ⟨gb566, 1, none⟩ (.int .i64 t563)).setCell ⟨gb566, 2, none⟩ (.int .i64 t564)) = w50 at n0_ n1_ n2_ n3_ n4_ n5_ ⊢
            have HO555 := n0_; have HO562 := n1_; have BK549 := n2_; have BK559 := n3_; have BK566 := n4_; have HB := n5_; clear n0_ n1_ n2_ n3_ n4_ n5_; have n0_ := zA (Kd.V_drew HO555.out); have n1_ := zA (Kd.V_drew HO562.out); have n2_ := zA (bW BK549.out); have n3_ := zA (bW BK559.out); have n4_ := zA (bW BK566.out); have n5_ := zA (bD HB.out); clear HO555; clear HO562; clear BK549; clear BK559; clear BK566; clear HB; have HO555 := n0_; have HO562 := n1_; have BK549 := n2_; have BK559 := n3_; have BK566 := n4_; have HB := n5_; clear n0_ n1_ n2_ n3_ n4_ n5_; have p568 : 0 ≤ (a0_1 : Int) := of_decide_eq_true (by assumption); have q568 : a0_1 < (t560.length : Int) := of_decide_eq_true (by assumption); obtain ⟨ad568, A568_1, c568_1, e568, hx568_0, hx568_1, hx568_2, hl568_1, hi568_1⟩ := at_T41 (Kd.V_reads' HO562.out).2.2 a0_1 p568 q568
            (try rw [← Nbq45.out] at hx568_2)
            cases e568; obtain ⟨ce568, hce568, hMe568, hcc568⟩ := Kd.V_get HO562.out z41 a0_1 p568 (by first | exact q568 | exact of_decide_eq_true (by assumption) | (have e_ := (Kd.V_reads' HO562.out).1; omega)); obtain ⟨ua568_1, uc568_1, rfl, ul568_1, ge568_1⟩ := k41_openF hMe568; have hv568_1 := hcc568 1 _ rfl
            rw [add_field _ _ 1 (by omega)] at hv568_1
            replace hv568_1 := Option.some.inj (hv568_1.symm.trans hx568_1)
            injection hv568_1 with hva_ hvn_ hvc_
            rw [hva_] at ge568_1
            rw [hvc_] at ul568_1
            have HL568_1 := zA (show Kd.V (Kd.slice 5 (Kd.int .u8)) 25 _ w.heap.size _ _ ((rd_T41 t560 a0_1).f1) from Kd.V_mk ul568_1 ge568_1); clear hva_ hvn_ hvc_ ge568_1 ul568_1; clear hcc568 hce568; have HR568_1 := zA hi568_1; have HC568_1 := zA hl568_1; clear hi568_1 hl568_1; replace p568 := eq_true p568; replace q568 := eq_true q568; have p569 : 0 ≤ (a0_1 : Int) := of_decide_eq_true (by assumption); have q569 : a0_1 < (t560.length : Int) := of_decide_eq_true (by assumption); obtain ⟨ad569, A569_1, c569_1, e569, hx569_0, hx569_1, hx569_2, hl569_1, hi569_1⟩ := at_T41 (Kd.V_reads' HO562.out).2.2 a0_1 p569 q569
            (try rw [← Nbq45.out] at hx569_2)
            obtain rfl : ad568 = ad569 := (by injection e569); obtain ⟨ce569, hce569, hMe569, hcc569⟩ := Kd.V_get HO562.out z41 a0_1 p569 (by first | exact q569 | exact of_decide_eq_true (by assumption) | (have e_ := (Kd.V_reads' HO562.out).1; omega)); obtain ⟨ua569_1, uc569_1, rfl, ul569_1, ge569_1⟩ := k41_openF hMe569; have hv569_1 := hcc569 1 _ rfl
            rw [add_field _ _ 1 (by omega)] at hv569_1
            replace hv569_1 := Option.some.inj (hv569_1.symm.trans hx569_1)
            injection hv569_1 with hva_ hvn_ hvc_
            rw [hva_] at ge569_1
            rw [hvc_] at ul569_1
            have HL569_1 := zA (show Kd.V (Kd.slice 5 (Kd.int .u8)) 25 _ w.heap.size _ _ ((rd_T41 t560 a0_1).f1) from Kd.V_mk ul569_1 ge569_1); clear hva_ hvn_ hvc_ ge569_1 ul569_1; clear hcc569 hce569; have HR569_1 := zA hi569_1; have HC569_1 := zA hl569_1; clear hi569_1 hl569_1; replace p569 := eq_true p569; replace q569 := eq_true q569; have ea_ := Option.some.inj (hx568_1.symm.trans hx569_1)
            injection ea_ with ea_ en_ ec_
            subst ea_; subst ec_; clear en_; refine start_ (n := 46) (S := fun w' => w'.cell? ⟨gb566, 0, none⟩ = some (.slice (some ad568) t560.length co34) ∧ w'.cell? ⟨gb566, 1, none⟩ = some (.int .i64 t563) ∧ w'.cell? ⟨gb566, 2, none⟩ = some (.int .i64 t564) ∧ w'.cell? ⟨gb549, 0, none⟩ = some (.slice A0_0 l0_0.length c0_0) ∧ w'.cell? ⟨gb549, 1, none⟩ = some (.int .i64 a0_1) ∧ w'.cell? ⟨gb549, 2, none⟩ = some (.int .i64 a0_2) ∧ w'.cell? (ad568.add ((a0_1).toNat * 3)) = some (.int .i64 ((rd_T41 t560 a0_1).f0)) ∧ w'.cell? ⟨(ad568.add ((a0_1).toNat * 3)).block, (ad568.add ((a0_1).toNat * 3)).off + 1, none⟩ = some (.slice A568_1 ((rd_T41 t560 a0_1).f1).length c568_1) ∧ w'.cell? ⟨(ad568.add ((a0_1).toNat * 3)).block, (ad568.add ((a0_1).toNat * 3)).off + 2, none⟩ = some (.bool false) ∧ w'.cell? (ad568.add ((a0_1).toNat * 3)) = some (.int .i64 ((rd_T41 t560 a0_1).f0)) ∧ w'.cell? ⟨(ad568.add ((a0_1).toNat * 3)).block, (ad568.add ((a0_1).toNat * 3)).off + 1, none⟩ = some (.slice A568_1 ((rd_T41 t560 a0_1).f1).length c568_1) ∧ w'.cell? ⟨(ad568.add ((a0_1).toNat * 3)).block, (ad568.add ((a0_1).toNat * 3)).off + 2, none⟩ = some (.bool false)) (ds := []) (bs 46 0) (by kernel_rfl) rfl rfl ⟨(blk_cell BK566.out 0).trans rfl, (blk_cell BK566.out 1).trans rfl, (blk_cell BK566.out 2).trans rfl, (blk_cell BK549.out 0).trans rfl, (blk_cell BK549.out 1).trans rfl, (blk_cell BK549.out 2).trans rfl, hx568_0, hx568_1, hx568_2, hx569_0, hx569_1, hx569_2⟩ (fun hHeld => ?_); refine with_tabW reelkeeperlaw13_DriveLost.tab7 reelkeeperlaw13_DriveLost.bits7 (fun HT_ HW_ => ?_)
            generalize w50.drew = w51 at HO555 HO562 BK549 BK559 BK566 HB HL568_1 HL569_1 HR568_1 HR569_1 hx568_0 hx568_1 hx568_2 hx569_0 hx569_1 hx569_2 hHeld ⊢
            refine pure_ (i := 0) (N := some 55) (v := ?_) (a' := ?_) (bs 46 1) rfl rfl (any_of HT_.out (by kernel_rfl)) (fun _ _ _ h => h) (Or.inl ⟨by rfl, ?_⟩) ?_ ?_; rotate_left
            ·intro w'
             go_simp
             with_reducible rfl
            rotate_left
            ·simp only [Act.put, sA, sB, sC, i64_w, i32_w]
             rfl
            refine pure_ (i := 1) (N := some 56) (v := ?_) (a' := ?_) (bs 46 3) rfl rfl (any_of HT_.out (by kernel_rfl)) (fun _ _ _ h => h) (Or.inl ⟨by rfl, ?_⟩) ?_ ?_; rotate_left
            ·intro w'
             go_simp
             with_reducible rfl
            rotate_left
            ·simp only [Act.put, sA, sB, sC, i64_w, i32_w]
             rfl
            refine pure_ (i := 2) (N := some 57) (v := ?_) (a' := ?_) (bs 46 7) rfl rfl (any_of HT_.out (by kernel_rfl)) (fun _ _ _ h => h) (Or.inl ⟨by rfl, ?_⟩) ?_ ?_; rotate_left
            ·intro w'
             go_simp
             with_reducible rfl
            rotate_left
            ·simp only [Act.put, sA, sB, sC, i64_w, i32_w]
             rfl
            refine take_ (i := 3) (N := some 58) (v := ?_) (a' := ?_) (bs 46 15) rfl rfl (take_ofW HT_.out HW_.out (by kernel_rfl)) (fun _ _ _ h => h) (Or.inl ⟨by rfl, ?_⟩) hHeld ?_ ?_; rotate_left
            ·rintro w' ⟨s0, s1, s2, s3, s4, s5, s6, s7, s8, s9, s10, s11⟩
             go_simp
             with_reducible rfl
            rotate_left
            ·simp only [Act.put, sA, sB, sC, i64_w, i32_w]
             rfl
            refine one_ (i := 4) (N := some 59) (bs 46 31) rfl rfl (one_of HT_.out (by kernel_rfl)) (by decide) (fun K hK => ?_); refine goes_ Try.func27 (by kernel_rfl) rfl #[.agg #[.slice (some ad568) t560.length co34, .int .i64 t563, .int .i64 t564]] (by rfl) rfl rfl (by (try simp only [List.map_toArray, List.map_cons, List.map_nil]); first | done | rfl | (simp only [List.length_drop, List.length_take]; rfl)) ?_
            with_reducible refine (drive_May.calls _ _ t560 t563 t564 true _ ?side1 ?side2 A39.out).mono ?_
            (case side1 => repeat (first | exact (Kd.V_reads' HO562.out).2.2 | (with_reducible refine Kd.C_alloc ?_ _) | (with_reducible refine Kd.C_drewN ?_ _) | (with_reducible refine Kd.C_drew ?_)))
            (case side2 => exact (Kd.V_reads' HO562.out).2.1)
            rintro e w52 ⟨rfl, hb⟩
            have HS6_ := (hb.cell (World.block_lt_of_cell? _ _ (hHeld.2.2.2.2.2.2.1))).trans (hHeld.2.2.2.2.2.2.1); have HS7_ := (hb.cell (World.block_lt_of_cell? _ _ (hHeld.2.2.2.2.2.2.2.1))).trans (hHeld.2.2.2.2.2.2.2.1); have HS8_ := (hb.cell (World.block_lt_of_cell? _ _ (hHeld.2.2.2.2.2.2.2.2.1))).trans (hHeld.2.2.2.2.2.2.2.2.1); have HS9_ := (hb.cell (World.block_lt_of_cell? _ _ (hHeld.2.2.2.2.2.2.2.2.2.1))).trans (hHeld.2.2.2.2.2.2.2.2.2.1); have HS10_ := (hb.cell (World.block_lt_of_cell? _ _ (hHeld.2.2.2.2.2.2.2.2.2.2.1))).trans (hHeld.2.2.2.2.2.2.2.2.2.2.1); have HS11_ := (hb.cell (World.block_lt_of_cell? _ _ (hHeld.2.2.2.2.2.2.2.2.2.2.2))).trans (hHeld.2.2.2.2.2.2.2.2.2.2.2); refine ⟨_, rfl, ?_⟩; have n0_ := zA (Kd.V_below HO555.out hb); have n1_ := zA (Kd.V_below HO562.out hb); have n2_ := zA (bK BK549.out hb); have n3_ := zA (bK BK559.out hb); have n4_ := zA (bK BK566.out hb); have n5_ := zA (below_step (by repeat (first | (with_reducible first | exact HB.out | apply bL | apply bP | apply bD | refine bS ?_ GE549.out | refine bS ?_ GE559.out | refine bS ?_ GE566.out) | exact HB.out)) hb); clear HO555; clear HO562; clear BK549; clear BK559; clear BK566; clear HB; have HO555 := n0_; have HO562 := n1_; have BK549 := n2_; have BK559 := n3_; have BK566 := n4_; have HB := n5_; clear n0_ n1_ n2_ n3_ n4_ n5_
            (try clear hb)
            (try clear hb2)
            (try clear hk)
            (try clear hi)
            refine hK.out _ _ ⟨(blk_cell BK566.out 0).trans rfl, (blk_cell BK566.out 1).trans rfl, (blk_cell BK566.out 2).trans rfl, (blk_cell BK549.out 0).trans rfl, (blk_cell BK549.out 1).trans rfl, (blk_cell BK549.out 2).trans rfl, HS6_, HS7_, HS8_, HS9_, HS10_, HS11_⟩ (fun hHeld => ?_); clear hK K; refine norm_ (a' := ?_) ?_ ?_; rotate_left
            ·show Act.put _ (some 59) _ = _
             simp only [Act.put, sA, sB, sC, i64_w, i32_w]
             rfl
            refine pure_ (i := 5) (N := some 60) (v := ?_) (a' := ?_) (bs 46 63) rfl rfl (any_of HT_.out (by kernel_rfl)) (fun _ _ _ h => h) (Or.inl ⟨by rfl, ?_⟩) ?_ ?_; rotate_left
            ·intro w'
             go_simp
             with_reducible rfl
            rotate_left
            ·simp only [Act.put, sA, sB, sC, i64_w, i32_w]
             rfl
            refine pure_ (i := 6) (N := some 61) (v := ?_) (a' := ?_) (bs 46 127) rfl rfl (any_of HT_.out (by kernel_rfl)) (fun _ _ _ h => h) (Or.inl ⟨by rfl, ?_⟩) ?_ ?_; rotate_left
            ·intro w'
             go_simp
             with_reducible rfl
            rotate_left
            ·simp only [Act.put, sA, sB, sC, i64_w, i32_w]
             rfl
            refine pure_ (i := 7) (N := some 62) (v := ?_) (a' := ?_) (bs 46 255) rfl rfl (any_of HT_.out (by kernel_rfl)) (fun _ _ _ h => h) (Or.inl ⟨by rfl, ?_⟩) ?_ ?_; rotate_left
            ·intro w'
             go_simp
             with_reducible rfl
            rotate_left
            ·simp only [Act.put, sA, sB, sC, i64_w, i32_w]
             rfl
            refine pure_ (i := 8) (N := some 63) (v := ?_) (a' := ?_) (bs 46 511) rfl rfl (any_of HT_.out (by kernel_rfl)) (fun _ _ _ h => h) (Or.inl ⟨by rfl, ?_⟩) ?_ ?_; rotate_left
            ·intro w'
             go_simp
             with_reducible rfl
            rotate_left
            ·simp only [Act.put, sA, sB, sC, i64_w, i32_w]
             rfl
            refine pure_ (i := 11) (N := some 66) (v := ?_) (a' := ?_) (bs 46 2559) rfl rfl (any_of HT_.out (by kernel_rfl)) (fun _ _ _ h => h) (Or.inl ⟨by rfl, ?_⟩) ?_ ?_; rotate_left
            ·intro w'
             go_simp
             with_reducible rfl
            rotate_left
            ·simp only [Act.put, sA, sB, sC, i64_w, i32_w]
             rfl
            refine take_ (i := 9) (N := some 64) (v := ?_) (a' := ?_) (bs 46 3071) rfl rfl (take_ofW HT_.out HW_.out (by kernel_rfl)) (fun _ _ _ h => h) (Or.inl ⟨by rfl, ?_⟩) hHeld ?_ ?_; rotate_left
            ·rintro w' ⟨s0, s1, s2, s3, s4, s5, s6, s7, s8, s9, s10, s11⟩
             go_simp
             with_reducible rfl
            rotate_left
            ·simp only [Act.put, sA, sB, sC, i64_w, i32_w]
             rfl
            refine pure_ (i := 10) (N := some 65) (v := ?_) (a' := ?_) (bs 46 4095) rfl rfl (any_of HT_.out (by kernel_rfl)) (fun _ _ _ h => h) (Or.inl ⟨by rfl, ?_⟩) ?_ ?_; rotate_left
            ·intro w'
             go_simp
             with_reducible rfl
            rotate_left
            ·simp only [Act.put, sA, sB, sC, i64_w, i32_w]
             rfl
            refine take_ (i := 12) (N := some 67) (v := ?_) (a' := ?_) (bs 46 8191) rfl rfl (take_ofW HT_.out HW_.out (by kernel_rfl)) (fun _ _ _ h => h) (Or.inl ⟨by rfl, ?_⟩) hHeld ?_ ?_; rotate_left
            ·rintro w' ⟨s0, s1, s2, s3, s4, s5, s6, s7, s8, s9, s10, s11⟩
             go_simp
             with_reducible rfl
            rotate_left
            ·simp only [Act.put, sA, sB, sC, i64_w, i32_w]
             rfl
            refine pure_ (i := 13) (N := some 68) (v := ?_) (a' := ?_) (bs 46 16383) rfl rfl (any_of HT_.out (by kernel_rfl)) (fun _ _ _ h => h) (Or.inl ⟨by rfl, ?_⟩) ?_ ?_; rotate_left
            ·intro w'
             go_simp
             with_reducible rfl
            rotate_left
            ·simp only [Act.put, sA, sB, sC, i64_w, i32_w]
             rfl
            refine pure_ (i := 14) (N := some 69) (v := ?_) (a' := ?_) (bs 46 32767) rfl rfl (any_of HT_.out (by kernel_rfl)) (fun _ _ _ h => h) (Or.inl ⟨by rfl, ?_⟩) ?_ ?_; rotate_left
            ·intro w'
             go_simp
             with_reducible rfl
            rotate_left
            ·simp only [Act.put, sA, sB, sC, i64_w, i32_w]
             rfl
            refine pure_ (i := 15) (N := some 70) (v := ?_) (a' := ?_) (bs 46 65535) rfl rfl (any_of HT_.out (by kernel_rfl)) (fun _ _ _ h => h) (Or.inl ⟨by rfl, ?_⟩) ?_ ?_; rotate_left
            ·intro w'
             go_simp
             with_reducible rfl
            rotate_left
            ·simp only [Act.put, sA, sB, sC, i64_w, i32_w]
             rfl
            refine pure_ (i := 16) (N := some 71) (v := ?_) (a' := ?_) (bs 46 131071) rfl rfl (any_of HT_.out (by kernel_rfl)) (fun _ _ _ h => h) (Or.inl ⟨by rfl, ?_⟩) ?_ ?_; rotate_left
            ·intro w'
             go_simp
             with_reducible rfl
            rotate_left
            ·simp only [Act.put, sA, sB, sC, i64_w, i32_w]
             rfl
            refine pure_ (i := 17) (N := some 72) (v := ?_) (a' := ?_) (bs 46 262143) rfl rfl (any_of HT_.out (by kernel_rfl)) (fun _ _ _ h => h) (Or.inl ⟨by rfl, ?_⟩) ?_ ?_; rotate_left
            ·intro w'
             go_simp
             with_reducible rfl
            rotate_left
            ·simp only [Act.put, sA, sB, sC, i64_w, i32_w]
             rfl
            refine pure_ (i := 19) (N := some 74) (v := ?_) (a' := ?_) (bs 46 786431) rfl rfl (any_of HT_.out (by kernel_rfl)) (fun _ _ _ h => h) (Or.inl ⟨by rfl, ?_⟩) ?_ ?_; rotate_left
            ·intro w'
             go_simp
             with_reducible rfl
            rotate_left
            ·simp only [Act.put, sA, sB, sC, i64_w, i32_w]
             rfl
            refine pure_ (i := 25) (N := some 80) (v := ?_) (a' := ?_) (bs 46 34340863) rfl rfl (any_of HT_.out (by kernel_rfl)) (fun _ _ _ h => h) (Or.inl ⟨by rfl, ?_⟩) ?_ ?_; rotate_left
            ·intro w'
             go_simp
             with_reducible rfl
            rotate_left
            ·simp only [Act.put, sA, sB, sC, i64_w, i32_w]
             rfl
            refine take_ (i := 18) (N := some 73) (v := ?_) (a' := ?_) (bs 46 34603007) rfl rfl (take_ofW HT_.out HW_.out (by kernel_rfl)) (fun _ _ _ h => h) (Or.inl ⟨by rfl, ?_⟩) hHeld ?_ ?_; rotate_left
            ·rintro w' ⟨s0, s1, s2, s3, s4, s5, s6, s7, s8, s9, s10, s11⟩
             go_simp
             with_reducible rfl
            rotate_left
            ·simp only [Act.put, sA, sB, sC, i64_w, i32_w]
             rfl
            refine take_ (i := 20) (N := some 75) (v := ?_) (a' := ?_) (bs 46 35651583) rfl rfl (take_ofW HT_.out HW_.out (by kernel_rfl)) (fun _ _ _ h => h) (Or.inl ⟨by rfl, ?_⟩) hHeld ?_ ?_; rotate_left
            ·rintro w' ⟨s0, s1, s2, s3, s4, s5, s6, s7, s8, s9, s10, s11⟩
             go_simp
             with_reducible rfl
            rotate_left
            ·simp only [Act.put, sA, sB, sC, i64_w, i32_w]
             rfl
            refine pure_ (i := 21) (N := some 76) (v := ?_) (a' := ?_) (bs 46 37748735) rfl rfl (any_of HT_.out (by kernel_rfl)) (fun _ _ _ h => h) (Or.inl ⟨by rfl, ?_⟩) ?_ ?_; rotate_left
            ·intro w'
             go_simp
             with_reducible rfl
            rotate_left
            ·simp only [Act.put, sA, sB, sC, i64_w, i32_w]
             rfl
            refine pure_ (i := 22) (N := some 77) (v := ?_) (a' := ?_) (bs 46 41943039) rfl rfl (any_of HT_.out (by kernel_rfl)) (fun _ _ _ h => h) (Or.inl ⟨by rfl, ?_⟩) ?_ ?_; rotate_left
            ·intro w'
             go_simp
             with_reducible rfl
            rotate_left
            ·simp only [Act.put, sA, sB, sC, i64_w, i32_w]
             rfl
            refine take_ (i := 23) (N := some 78) (v := ?_) (a' := ?_) (bs 46 50331647) rfl rfl (take_ofW HT_.out HW_.out (by kernel_rfl)) (fun _ _ _ h => h) (Or.inl ⟨by rfl, ?_⟩) hHeld ?_ ?_; rotate_left
            ·rintro w' ⟨s0, s1, s2, s3, s4, s5, s6, s7, s8, s9, s10, s11⟩
             go_simp
             with_reducible rfl
            rotate_left
            ·simp only [Act.put, sA, sB, sC, i64_w, i32_w]
             rfl
            refine pure_ (i := 24) (N := some 79) (v := ?_) (a' := ?_) (bs 46 67108863) rfl rfl (any_of HT_.out (by kernel_rfl)) (fun _ _ _ h => h) (Or.inl ⟨by rfl, ?_⟩) ?_ ?_; rotate_left
            ·intro w'
             go_simp
             with_reducible rfl
            rotate_left
            ·simp only [Act.put, sA, sB, sC, i64_w, i32_w]
             rfl
            refine take_ (i := 26) (N := some 81) (v := ?_) (a' := ?_) (bs 46 134217727) rfl rfl (take_ofW HT_.out HW_.out (by kernel_rfl)) (fun _ _ _ h => h) (Or.inl ⟨by rfl, ?_⟩) hHeld ?_ ?_; rotate_left
            ·rintro w' ⟨s0, s1, s2, s3, s4, s5, s6, s7, s8, s9, s10, s11⟩
             go_simp
             with_reducible rfl
            rotate_left
            ·simp only [Act.put, sA, sB, sC, i64_w, i32_w]
             rfl
            refine pure_ (i := 27) (N := some 82) (v := ?_) (a' := ?_) (bs 46 268435455) rfl rfl (any_of HT_.out (by kernel_rfl)) (fun _ _ _ h => h) (Or.inl ⟨by rfl, ?_⟩) ?_ ?_; rotate_left
            ·intro w'
             go_simp
             with_reducible rfl
            rotate_left
            ·simp only [Act.put, sA, sB, sC, i64_w, i32_w]
             rfl
            refine pure_ (i := 28) (N := some 83) (v := ?_) (a' := ?_) (bs 46 536870911) rfl rfl (any_of HT_.out (by kernel_rfl)) (fun _ _ _ h => h) (Or.inl ⟨by rfl, ?_⟩) ?_ ?_; rotate_left
            ·intro w'
             go_simp
             with_reducible rfl
            rotate_left
            ·simp only [Act.put, sA, sB, sC, i64_w, i32_w]
             rfl
            refine pure_ (i := 29) (N := some 84) (v := ?_) (a' := ?_) (bs 46 1073741823) rfl rfl (any_of HT_.out (by kernel_rfl)) (fun _ _ _ h => h) (Or.inl ⟨by rfl, ?_⟩) ?_ ?_; rotate_left
            ·intro w'
             go_simp
             with_reducible rfl
            rotate_left
            ·simp only [Act.put, sA, sB, sC, i64_w, i32_w]
             rfl
            refine pure_ (i := 30) (N := some 85) (v := ?_) (a' := ?_) (bs 46 2147483647) rfl rfl (any_of HT_.out (by kernel_rfl)) (fun _ _ _ h => h) (Or.inl ⟨by rfl, ?_⟩) ?_ ?_; rotate_left
            ·intro w'
             go_simp
             with_reducible rfl
            rotate_left
            ·simp only [Act.put, sA, sB, sC, i64_w, i32_w]
             rfl
            refine pure_ (i := 32) (N := some 87) (v := ?_) (a' := ?_) (bs 46 6442450943) rfl rfl (any_of HT_.out (by kernel_rfl)) (fun _ _ _ h => h) (Or.inl ⟨by rfl, ?_⟩) ?_ ?_; rotate_left
            ·intro w'
             go_simp
             with_reducible rfl
            rotate_left
            ·simp only [Act.put, sA, sB, sC, i64_w, i32_w]
             rfl
            refine take_ (i := 31) (N := some 86) (v := ?_) (a' := ?_) (bs 46 8589934591) rfl rfl (take_ofW HT_.out HW_.out (by kernel_rfl)) (fun _ _ _ h => h) (Or.inl ⟨by rfl, ?_⟩) hHeld ?_ ?_; rotate_left
            ·rintro w' ⟨s0, s1, s2, s3, s4, s5, s6, s7, s8, s9, s10, s11⟩
             go_simp
             with_reducible rfl
            rotate_left
            ·simp only [Act.put, sA, sB, sC, i64_w, i32_w]
             rfl
            refine take_ (i := 33) (N := some 88) (v := ?_) (a' := ?_) (bs 46 17179869183) rfl rfl (take_ofW HT_.out HW_.out (by kernel_rfl)) (fun _ _ _ h => h) (Or.inl ⟨by rfl, ?_⟩) hHeld ?_ ?_; rotate_left
            ·rintro w' ⟨s0, s1, s2, s3, s4, s5, s6, s7, s8, s9, s10, s11⟩
             go_simp
             with_reducible rfl
            rotate_left
            ·simp only [Act.put, sA, sB, sC, i64_w, i32_w]
             rfl
            refine pure_ (i := 34) (N := some 89) (v := ?_) (a' := ?_) (bs 46 34359738367) rfl rfl (any_of HT_.out (by kernel_rfl)) (fun _ _ _ h => h) (Or.inl ⟨by rfl, ?_⟩) ?_ ?_; rotate_left
            ·intro w'
             go_simp
             with_reducible rfl
            rotate_left
            ·simp only [Act.put, sA, sB, sC, i64_w, i32_w]
             rfl
            refine pure_ (i := 35) (N := some 90) (v := ?_) (a' := ?_) (bs 46 68719476735) rfl rfl (any_of HT_.out (by kernel_rfl)) (fun _ _ _ h => h) (Or.inl ⟨by rfl, ?_⟩) ?_ ?_; rotate_left
            ·intro w'
             go_simp
             with_reducible rfl
            rotate_left
            ·simp only [Act.put, sA, sB, sC, i64_w, i32_w]
             rfl
            refine take_ (i := 36) (N := some 91) (v := ?_) (a' := ?_) (bs 46 137438953471) rfl rfl (take_ofW HT_.out HW_.out (by kernel_rfl)) (fun _ _ _ h => h) (Or.inl ⟨by rfl, ?_⟩) hHeld ?_ ?_; rotate_left
            ·rintro w' ⟨s0, s1, s2, s3, s4, s5, s6, s7, s8, s9, s10, s11⟩
             go_simp
             with_reducible rfl
            rotate_left
            ·simp only [Act.put, sA, sB, sC, i64_w, i32_w]
             rfl
            refine pure_ (i := 37) (N := some 92) (v := ?_) (a' := ?_) (bs 46 274877906943) rfl rfl (any_of HT_.out (by kernel_rfl)) (fun _ _ _ h => h) (Or.inl ⟨by rfl, ?_⟩) ?_ ?_; rotate_left
            ·intro w'
             go_simp
             with_reducible rfl
            rotate_left
            ·simp only [Act.put, sA, sB, sC, i64_w, i32_w]
             rfl
            refine pure_ (i := 38) (N := some 93) (v := ?_) (a' := ?_) (bs 46 549755813887) rfl rfl (any_of HT_.out (by kernel_rfl)) (fun _ _ _ h => h) (Or.inl ⟨by rfl, ?_⟩) ?_ ?_; rotate_left
            ·intro w'
             go_simp
             with_reducible rfl
            rotate_left
            ·simp only [Act.put, sA, sB, sC, i64_w, i32_w]
             rfl
            refine pure_ (i := 39) (N := some 94) (v := ?_) (a' := ?_) (bs 46 1099511627775) rfl rfl (any_of HT_.out (by kernel_rfl)) (fun _ _ _ h => h) (Or.inl ⟨by rfl, ?_⟩) ?_ ?_; rotate_left
            ·intro w'
             go_simp
             with_reducible rfl
            rotate_left
            ·simp only [Act.put, sA, sB, sC, i64_w, i32_w]
             rfl
            refine pure_ (i := 40) (N := some 95) (v := undef) (a' := ?_) (bs 46 2199023255551) rfl rfl (any_of HT_.out (by kernel_rfl)) (fun _ _ _ h => h) (Or.inr ⟨by rfl, rfl⟩) ?_ ?_; rotate_left
            ·simp only [Act.put, sA, sB, sC, i64_w, i32_w]
             rfl
            refine pure_ (i := 41) (N := some 96) (v := undef) (a' := ?_) (bs 46 4398046511103) rfl rfl (any_of HT_.out (by kernel_rfl)) (fun _ _ _ h => h) (Or.inr ⟨by rfl, rfl⟩) ?_ ?_; rotate_left
            ·simp only [Act.put, sA, sB, sC, i64_w, i32_w]
             rfl
            refine pure_ (i := 42) (N := some 97) (v := undef) (a' := ?_) (bs 46 8796093022207) rfl rfl (any_of HT_.out (by kernel_rfl)) (fun _ _ _ h => h) (Or.inr ⟨by rfl, rfl⟩) ?_ ?_; rotate_left
            ·simp only [Act.put, sA, sB, sC, i64_w, i32_w]
             rfl
            refine pure_ (i := 43) (N := some 98) (v := undef) (a' := ?_) (bs 46 17592186044415) rfl rfl (any_of HT_.out (by kernel_rfl)) (fun _ _ _ h => h) (Or.inr ⟨by rfl, rfl⟩) ?_ ?_; rotate_left
            ·simp only [Act.put, sA, sB, sC, i64_w, i32_w]
             rfl
            refine pure_ (i := 44) (N := some 99) (v := undef) (a' := ?_) (bs 46 35184372088831) rfl rfl (any_of HT_.out (by kernel_rfl)) (fun _ _ _ h => h) (Or.inr ⟨by rfl, rfl⟩) ?_ ?_; rotate_left
            ·simp only [Act.put, sA, sB, sC, i64_w, i32_w]
             rfl
            refine pure_ (i := 45) (N := some 100) (v := ?_) (a' := ?_) (bs 46 70368744177663) rfl rfl (any_of HT_.out (by kernel_rfl)) (fun _ _ _ h => h) (Or.inl ⟨by rfl, ?_⟩) ?_ ?_; rotate_left
            ·intro w'
             go_simp
             with_reducible rfl
            rotate_left
            ·simp only [Act.put, sA, sB, sC, i64_w, i32_w]
             rfl
            refine done_ (done_of HT_.out (by kernel_rfl)) ?_
            try go_wp2
            go_meet
            case rel => exact ⟨_, (true), (by first | rfl | (simp; done) | (simp [*]; done)), H', ⟨by have := HJ5.out; first | omega | exact Nat.le_refl _⟩, ⟨by exact HO555.out⟩, ⟨by exact HO562.out⟩, ⟨by exact BK549.out⟩, ⟨by exact BK559.out⟩, ⟨by exact BK566.out⟩, ⟨by repeat (first | (with_reducible first | exact HB.out | apply bL | apply bP | apply bD | refine bS ?_ GE549.out | refine bS ?_ GE559.out | refine bS ?_ GE566.out) | exact HB.out)⟩⟩
          ·as_aux_lemma =>
           rw [if_neg c44] at H
           have c44b0 : ((((rd_T41 t560 a0_1).f1).length : Int) == a0_2) = false := beq_eq_false_iff_ne.mpr c44; have c44b1 : ((((rd_T41 t560 a0_1).f1).length : Int) != a0_2) = true := bne_iff_ne.mpr c44; have H' := zA H; clear H
           try go_wp2
           have n0_ : Aside0 (Kd.V k41 41 (((w33.setCell ⟨gb566, 0, none⟩ (.slice Ao34 t560.length co34)).setCell ⟨gb566, 1, none⟩ (.int .i64 t563)).setCell ⟨gb566, 2, none⟩ (.int .i64 t564)) w.heap.size (fun k_ => k_ ≠ gb549 ∧ k_ ≠ gb559 ∧ k_ ≠ gb566) (.slice Ao28 t553.length co28) t553) := ⟨by exact Kd.V_mono (Kd.V_far (p := ⟨gb566, 2, none⟩) (Kd.V_far (p := ⟨gb566, 1, none⟩) (Kd.V_far (p := ⟨gb566, 0, none⟩) (Kd.V_mono HO555.out (fun k_ hk => (⟨hk, hk.2⟩ : _ ∧ k_ ≠ gb566))) (fun _ hk => hk.2) (.slice Ao34 t560.length co34)) (fun _ hk => hk.2) (.int .i64 t563)) (fun _ hk => hk.2) (.int .i64 t564)) (fun _ hk => ⟨hk.1.1.1, ⟨hk.1.1.2, hk.1.2⟩⟩)⟩; have n1_ : Aside0 (Kd.V k41 41 (((w33.setCell ⟨gb566, 0, none⟩ (.slice Ao34 t560.length co34)).setCell ⟨gb566, 1, none⟩ (.int .i64 t563)).setCell ⟨gb566, 2, none⟩ (.int .i64 t564)) w.heap.size (fun k_ => k_ ≠ gb549 ∧ k_ ≠ gb559 ∧ k_ ≠ gb566) (.slice Ao34 t560.length co34) t560) := ⟨by exact Kd.V_mono (Kd.V_far (p := ⟨gb566, 2, none⟩) (Kd.V_far (p := ⟨gb566, 1, none⟩) (Kd.V_far (p := ⟨gb566, 0, none⟩) (Kd.V_mono HO562.out (fun k_ hk => (⟨hk, hk.2⟩ : _ ∧ k_ ≠ gb566))) (fun _ hk => hk.2) (.slice Ao34 t560.length co34)) (fun _ hk => hk.2) (.int .i64 t563)) (fun _ hk => hk.2) (.int .i64 t564)) (fun _ hk => ⟨hk.1.1.1, ⟨hk.1.1.2, hk.1.2⟩⟩)⟩; have n2_ : Aside0 ((((w33.setCell ⟨gb566, 0, none⟩ (.slice Ao34 t560.length co34)).setCell ⟨gb566, 1, none⟩ (.int .i64 t563)).setCell ⟨gb566, 2, none⟩ (.int .i64 t564)).heap[gb549]? = some (.cells #[.slice A0_0 l0_0.length c0_0, .int .i64 a0_1, .int .i64 a0_2] 24 (0, 0))) := ⟨by refine blk_far ?_ NB549_566.out _; refine blk_far ?_ NB549_566.out _; refine blk_far ?_ NB549_566.out _; exact BK549.out⟩; have n3_ : Aside0 ((((w33.setCell ⟨gb566, 0, none⟩ (.slice Ao34 t560.length co34)).setCell ⟨gb566, 1, none⟩ (.int .i64 t563)).setCell ⟨gb566, 2, none⟩ (.int .i64 t564)).heap[gb559]? = some (.cells #[.slice Ao28 t553.length co28, .int .i64 t556, .int .i64 t557] 24 (0, 0))) := ⟨by refine blk_far ?_ NB559_566.out _; refine blk_far ?_ NB559_566.out _; refine blk_far ?_ NB559_566.out _; exact BK559.out⟩; have n4_ : Aside0 ((((w33.setCell ⟨gb566, 0, none⟩ (.slice Ao34 t560.length co34)).setCell ⟨gb566, 1, none⟩ (.int .i64 t563)).setCell ⟨gb566, 2, none⟩ (.int .i64 t564)).heap[gb566]? = some (.cells #[.slice Ao34 t560.length co34, .int .i64 t563, .int .i64 t564] 24 (0, 0))) := ⟨by refine blk_put (cs := #[.slice Ao34 t560.length co34, .int .i64 t563, .int .i64 0]) ?_ 2 _ rfl; refine blk_put (cs := #[.slice Ao34 t560.length co34, .int .i64 0, .int .i64 0]) ?_ 1 _ rfl; refine blk_put (cs := #[.slice none 0 0, .int .i64 0, .int .i64 0]) ?_ 0 _ rfl; exact BK566.out⟩
           have n5_ : Aside0 (Below w.heap.size w (((w33.setCell ⟨gb566, 0, none⟩ (.slice Ao34 t560.length co34)).setCell ⟨gb566, 1, none⟩ (.int .i64 t563)).setCell ⟨gb566, 2, none⟩ (.int .i64 t564))) := ⟨by repeat (first | (with_reducible first | exact HB.out | apply bL | apply bP | apply bD | refine bS ?_ GE549.out | refine bS ?_ GE559.out | refine bS ?_ GE566.out) | exact HB.out)⟩
           (try clear HO555)
           (try clear HO562)
           (try clear BK549)
           (try clear BK559)
           (try clear BK566)
           (try clear HB)
           generalize (((w33.setCell ⟨gb566, 0, none⟩ (.slice Ao34 t560.length co34)).setCell ⟨gb566, 1, none⟩ (.int .i64 t563)).setCell ⟨gb566, 2, none⟩ (.int .i64 t564)) = w53 at n0_ n1_ n2_ n3_ n4_ n5_ ⊢
           have HO555 := n0_; have HO562 := n1_; have BK549 := n2_; have BK559 := n3_; have BK566 := n4_; have HB := n5_; clear n0_ n1_ n2_ n3_ n4_ n5_; have n0_ := zA (Kd.V_drew HO555.out); have n1_ := zA (Kd.V_drew HO562.out); have n2_ := zA (bW BK549.out); have n3_ := zA (bW BK559.out); have n4_ := zA (bW BK566.out); have n5_ := zA (bD HB.out); clear HO555; clear HO562; clear BK549; clear BK559; clear BK566; clear HB; have HO555 := n0_; have HO562 := n1_; have BK549 := n2_; have BK559 := n3_; have BK566 := n4_; have HB := n5_; clear n0_ n1_ n2_ n3_ n4_ n5_; have p568 : 0 ≤ (a0_1 : Int) := of_decide_eq_true (by assumption); have q568 : a0_1 < (t560.length : Int) := of_decide_eq_true (by assumption); obtain ⟨ad568, A568_1, c568_1, e568, hx568_0, hx568_1, hx568_2, hl568_1, hi568_1⟩ := at_T41 (Kd.V_reads' HO562.out).2.2 a0_1 p568 q568; cases e568; obtain ⟨ce568, hce568, hMe568, hcc568⟩ := Kd.V_get HO562.out z41 a0_1 p568 (by first | exact q568 | exact of_decide_eq_true (by assumption) | (have e_ := (Kd.V_reads' HO562.out).1; omega)); obtain ⟨ua568_1, uc568_1, rfl, ul568_1, ge568_1⟩ := k41_openF hMe568; have hv568_1 := hcc568 1 _ rfl
           rw [add_field _ _ 1 (by omega)] at hv568_1
           replace hv568_1 := Option.some.inj (hv568_1.symm.trans hx568_1)
           injection hv568_1 with hva_ hvn_ hvc_
           rw [hva_] at ge568_1
           rw [hvc_] at ul568_1
           have HL568_1 := zA (show Kd.V (Kd.slice 5 (Kd.int .u8)) 25 _ w.heap.size _ _ ((rd_T41 t560 a0_1).f1) from Kd.V_mk ul568_1 ge568_1); clear hva_ hvn_ hvc_ ge568_1 ul568_1; clear hcc568 hce568; have HR568_1 := zA hi568_1; have HC568_1 := zA hl568_1; clear hi568_1 hl568_1; replace p568 := eq_true p568; replace q568 := eq_true q568; refine start_ (n := 46) (S := fun w' => w'.cell? ⟨gb566, 0, none⟩ = some (.slice (some ad568) t560.length co34) ∧ w'.cell? ⟨gb566, 1, none⟩ = some (.int .i64 t563) ∧ w'.cell? ⟨gb566, 2, none⟩ = some (.int .i64 t564) ∧ w'.cell? ⟨gb549, 0, none⟩ = some (.slice A0_0 l0_0.length c0_0) ∧ w'.cell? ⟨gb549, 1, none⟩ = some (.int .i64 a0_1) ∧ w'.cell? ⟨gb549, 2, none⟩ = some (.int .i64 a0_2) ∧ w'.cell? (ad568.add ((a0_1).toNat * 3)) = some (.int .i64 ((rd_T41 t560 a0_1).f0)) ∧ w'.cell? ⟨(ad568.add ((a0_1).toNat * 3)).block, (ad568.add ((a0_1).toNat * 3)).off + 1, none⟩ = some (.slice A568_1 ((rd_T41 t560 a0_1).f1).length c568_1) ∧ w'.cell? ⟨(ad568.add ((a0_1).toNat * 3)).block, (ad568.add ((a0_1).toNat * 3)).off + 2, none⟩ = some (.bool ((rd_T41 t560 a0_1).f2))) (ds := []) (bs 46 0) (by kernel_rfl) rfl rfl ⟨(blk_cell BK566.out 0).trans rfl, (blk_cell BK566.out 1).trans rfl, (blk_cell BK566.out 2).trans rfl, (blk_cell BK549.out 0).trans rfl, (blk_cell BK549.out 1).trans rfl, (blk_cell BK549.out 2).trans rfl, hx568_0, hx568_1, hx568_2⟩ (fun hHeld => ?_); refine with_tabW reelkeeperlaw13_DriveLost.tab7 reelkeeperlaw13_DriveLost.bits7 (fun HT_ HW_ => ?_)
           generalize w53.drew = w54 at HO555 HO562 BK549 BK559 BK566 HB HL568_1 HR568_1 hx568_0 hx568_1 hx568_2 hHeld ⊢
           refine pure_ (i := 0) (N := some 55) (v := ?_) (a' := ?_) (bs 46 1) rfl rfl (any_of HT_.out (by kernel_rfl)) (fun _ _ _ h => h) (Or.inl ⟨by rfl, ?_⟩) ?_ ?_; rotate_left
           ·intro w'
            go_simp
            with_reducible rfl
           rotate_left
           ·simp only [Act.put, sA, sB, sC, i64_w, i32_w]
            rfl
           refine pure_ (i := 1) (N := some 56) (v := ?_) (a' := ?_) (bs 46 3) rfl rfl (any_of HT_.out (by kernel_rfl)) (fun _ _ _ h => h) (Or.inl ⟨by rfl, ?_⟩) ?_ ?_; rotate_left
           ·intro w'
            go_simp
            with_reducible rfl
           rotate_left
           ·simp only [Act.put, sA, sB, sC, i64_w, i32_w]
            rfl
           refine pure_ (i := 2) (N := some 57) (v := ?_) (a' := ?_) (bs 46 7) rfl rfl (any_of HT_.out (by kernel_rfl)) (fun _ _ _ h => h) (Or.inl ⟨by rfl, ?_⟩) ?_ ?_; rotate_left
           ·intro w'
            go_simp
            with_reducible rfl
           rotate_left
           ·simp only [Act.put, sA, sB, sC, i64_w, i32_w]
            rfl
           refine take_ (i := 3) (N := some 58) (v := ?_) (a' := ?_) (bs 46 15) rfl rfl (take_ofW HT_.out HW_.out (by kernel_rfl)) (fun _ _ _ h => h) (Or.inl ⟨by rfl, ?_⟩) hHeld ?_ ?_; rotate_left
           ·rintro w' ⟨s0, s1, s2, s3, s4, s5, s6, s7, s8⟩
            go_simp
            with_reducible rfl
           rotate_left
           ·simp only [Act.put, sA, sB, sC, i64_w, i32_w]
            rfl
           refine one_ (i := 4) (N := some 59) (bs 46 31) rfl rfl (one_of HT_.out (by kernel_rfl)) (by decide) (fun K hK => ?_); refine goes_ Try.func27 (by kernel_rfl) rfl #[.agg #[.slice (some ad568) t560.length co34, .int .i64 t563, .int .i64 t564]] (by rfl) rfl rfl (by (try simp only [List.map_toArray, List.map_cons, List.map_nil]); first | done | rfl | (simp only [List.length_drop, List.length_take]; rfl)) ?_
           with_reducible refine (drive_May.calls _ _ t560 t563 t564 true _ ?side1 ?side2 A39.out).mono ?_
           (case side1 => repeat (first | exact (Kd.V_reads' HO562.out).2.2 | (with_reducible refine Kd.C_alloc ?_ _) | (with_reducible refine Kd.C_drewN ?_ _) | (with_reducible refine Kd.C_drew ?_)))
           (case side2 => exact (Kd.V_reads' HO562.out).2.1)
           rintro e w55 ⟨rfl, hb⟩
           have HS6_ := (hb.cell (World.block_lt_of_cell? _ _ (hHeld.2.2.2.2.2.2.1))).trans (hHeld.2.2.2.2.2.2.1); have HS7_ := (hb.cell (World.block_lt_of_cell? _ _ (hHeld.2.2.2.2.2.2.2.1))).trans (hHeld.2.2.2.2.2.2.2.1); have HS8_ := (hb.cell (World.block_lt_of_cell? _ _ (hHeld.2.2.2.2.2.2.2.2))).trans (hHeld.2.2.2.2.2.2.2.2); refine ⟨_, rfl, ?_⟩; have n0_ := zA (Kd.V_below HO555.out hb); have n1_ := zA (Kd.V_below HO562.out hb); have n2_ := zA (bK BK549.out hb); have n3_ := zA (bK BK559.out hb); have n4_ := zA (bK BK566.out hb); have n5_ := zA (below_step (by repeat (first | (with_reducible first | exact HB.out | apply bL | apply bP | apply bD | refine bS ?_ GE549.out | refine bS ?_ GE559.out | refine bS ?_ GE566.out) | exact HB.out)) hb); clear HO555; clear HO562; clear BK549; clear BK559; clear BK566; clear HB; have HO555 := n0_; have HO562 := n1_; have BK549 := n2_; have BK559 := n3_; have BK566 := n4_; have HB := n5_; clear n0_ n1_ n2_ n3_ n4_ n5_
           (try clear hb)
           (try clear hb2)
           (try clear hk)
           (try clear hi)
           refine hK.out _ _ ⟨(blk_cell BK566.out 0).trans rfl, (blk_cell BK566.out 1).trans rfl, (blk_cell BK566.out 2).trans rfl, (blk_cell BK549.out 0).trans rfl, (blk_cell BK549.out 1).trans rfl, (blk_cell BK549.out 2).trans rfl, HS6_, HS7_, HS8_⟩ (fun hHeld => ?_); clear hK K; refine norm_ (a' := ?_) ?_ ?_; rotate_left
           ·show Act.put _ (some 59) _ = _
            simp only [Act.put, sA, sB, sC, i64_w, i32_w]
            rfl
           refine pure_ (i := 5) (N := some 60) (v := ?_) (a' := ?_) (bs 46 63) rfl rfl (any_of HT_.out (by kernel_rfl)) (fun _ _ _ h => h) (Or.inl ⟨by rfl, ?_⟩) ?_ ?_; rotate_left
           ·intro w'
            go_simp
            with_reducible rfl
           rotate_left
           ·simp only [Act.put, sA, sB, sC, i64_w, i32_w]
            rfl
           refine pure_ (i := 6) (N := some 61) (v := ?_) (a' := ?_) (bs 46 127) rfl rfl (any_of HT_.out (by kernel_rfl)) (fun _ _ _ h => h) (Or.inl ⟨by rfl, ?_⟩) ?_ ?_; rotate_left
           ·intro w'
            go_simp
            with_reducible rfl
           rotate_left
           ·simp only [Act.put, sA, sB, sC, i64_w, i32_w]
            rfl
           refine pure_ (i := 7) (N := some 62) (v := ?_) (a' := ?_) (bs 46 255) rfl rfl (any_of HT_.out (by kernel_rfl)) (fun _ _ _ h => h) (Or.inl ⟨by rfl, ?_⟩) ?_ ?_; rotate_left
           ·intro w'
            go_simp
            with_reducible rfl
           rotate_left
           ·simp only [Act.put, sA, sB, sC, i64_w, i32_w]
            rfl
           refine pure_ (i := 8) (N := some 63) (v := ?_) (a' := ?_) (bs 46 511) rfl rfl (any_of HT_.out (by kernel_rfl)) (fun _ _ _ h => h) (Or.inl ⟨by rfl, ?_⟩) ?_ ?_; rotate_left
           ·intro w'
            go_simp
            with_reducible rfl
           rotate_left
           ·simp only [Act.put, sA, sB, sC, i64_w, i32_w]
            rfl
           refine pure_ (i := 11) (N := some 66) (v := ?_) (a' := ?_) (bs 46 2559) rfl rfl (any_of HT_.out (by kernel_rfl)) (fun _ _ _ h => h) (Or.inl ⟨by rfl, ?_⟩) ?_ ?_; rotate_left
           ·intro w'
            go_simp
            with_reducible rfl
           rotate_left
           ·simp only [Act.put, sA, sB, sC, i64_w, i32_w]
            rfl
           refine take_ (i := 9) (N := some 64) (v := ?_) (a' := ?_) (bs 46 3071) rfl rfl (take_ofW HT_.out HW_.out (by kernel_rfl)) (fun _ _ _ h => h) (Or.inl ⟨by rfl, ?_⟩) hHeld ?_ ?_; rotate_left
           ·rintro w' ⟨s0, s1, s2, s3, s4, s5, s6, s7, s8⟩
            go_simp
            with_reducible rfl
           rotate_left
           ·simp only [Act.put, sA, sB, sC, i64_w, i32_w]
            rfl
           refine pure_ (i := 10) (N := some 65) (v := ?_) (a' := ?_) (bs 46 4095) rfl rfl (any_of HT_.out (by kernel_rfl)) (fun _ _ _ h => h) (Or.inl ⟨by rfl, ?_⟩) ?_ ?_; rotate_left
           ·intro w'
            go_simp
            with_reducible rfl
           rotate_left
           ·simp only [Act.put, sA, sB, sC, i64_w, i32_w]
            rfl
           refine take_ (i := 12) (N := some 67) (v := ?_) (a' := ?_) (bs 46 8191) rfl rfl (take_ofW HT_.out HW_.out (by kernel_rfl)) (fun _ _ _ h => h) (Or.inl ⟨by rfl, ?_⟩) hHeld ?_ ?_; rotate_left
           ·rintro w' ⟨s0, s1, s2, s3, s4, s5, s6, s7, s8⟩
            go_simp
            with_reducible rfl
           rotate_left
           ·simp only [Act.put, sA, sB, sC, i64_w, i32_w]
            rfl
           refine pure_ (i := 13) (N := some 68) (v := ?_) (a' := ?_) (bs 46 16383) rfl rfl (any_of HT_.out (by kernel_rfl)) (fun _ _ _ h => h) (Or.inl ⟨by rfl, ?_⟩) ?_ ?_; rotate_left
           ·intro w'
            go_simp
            with_reducible rfl
           rotate_left
           ·simp only [Act.put, sA, sB, sC, i64_w, i32_w]
            rfl
           refine pure_ (i := 14) (N := some 69) (v := ?_) (a' := ?_) (bs 46 32767) rfl rfl (any_of HT_.out (by kernel_rfl)) (fun _ _ _ h => h) (Or.inl ⟨by rfl, ?_⟩) ?_ ?_; rotate_left
           ·intro w'
            go_simp
            with_reducible rfl
           rotate_left
           ·simp only [Act.put, sA, sB, sC, i64_w, i32_w]
            rfl
           refine pure_ (i := 15) (N := some 70) (v := ?_) (a' := ?_) (bs 46 65535) rfl rfl (any_of HT_.out (by kernel_rfl)) (fun _ _ _ h => h) (Or.inl ⟨by rfl, ?_⟩) ?_ ?_; rotate_left
           ·intro w'
            go_simp
            with_reducible rfl
           rotate_left
           ·simp only [Act.put, sA, sB, sC, i64_w, i32_w]
            rfl
           refine pure_ (i := 16) (N := some 71) (v := ?_) (a' := ?_) (bs 46 131071) rfl rfl (any_of HT_.out (by kernel_rfl)) (fun _ _ _ h => h) (Or.inl ⟨by rfl, ?_⟩) ?_ ?_; rotate_left
           ·intro w'
            go_simp
            with_reducible rfl
           rotate_left
           ·simp only [Act.put, sA, sB, sC, i64_w, i32_w]
            rfl
           refine pure_ (i := 17) (N := some 72) (v := ?_) (a' := ?_) (bs 46 262143) rfl rfl (any_of HT_.out (by kernel_rfl)) (fun _ _ _ h => h) (Or.inl ⟨by rfl, ?_⟩) ?_ ?_; rotate_left
           ·intro w'
            go_simp
            with_reducible rfl
           rotate_left
           ·simp only [Act.put, sA, sB, sC, i64_w, i32_w]
            rfl
           refine pure_ (i := 19) (N := some 74) (v := ?_) (a' := ?_) (bs 46 786431) rfl rfl (any_of HT_.out (by kernel_rfl)) (fun _ _ _ h => h) (Or.inl ⟨by rfl, ?_⟩) ?_ ?_; rotate_left
           ·intro w'
            go_simp
            with_reducible rfl
           rotate_left
           ·simp only [Act.put, sA, sB, sC, i64_w, i32_w]
            rfl
           refine pure_ (i := 25) (N := some 80) (v := ?_) (a' := ?_) (bs 46 34340863) rfl rfl (any_of HT_.out (by kernel_rfl)) (fun _ _ _ h => h) (Or.inl ⟨by rfl, ?_⟩) ?_ ?_; rotate_left
           ·intro w'
            go_simp
            with_reducible rfl
           rotate_left
           ·simp only [Act.put, sA, sB, sC, i64_w, i32_w]
            rfl
           refine take_ (i := 18) (N := some 73) (v := ?_) (a' := ?_) (bs 46 34603007) rfl rfl (take_ofW HT_.out HW_.out (by kernel_rfl)) (fun _ _ _ h => h) (Or.inl ⟨by rfl, ?_⟩) hHeld ?_ ?_; rotate_left
           ·rintro w' ⟨s0, s1, s2, s3, s4, s5, s6, s7, s8⟩
            go_simp
            with_reducible rfl
           rotate_left
           ·simp only [Act.put, sA, sB, sC, i64_w, i32_w]
            rfl
           refine take_ (i := 20) (N := some 75) (v := ?_) (a' := ?_) (bs 46 35651583) rfl rfl (take_ofW HT_.out HW_.out (by kernel_rfl)) (fun _ _ _ h => h) (Or.inl ⟨by rfl, ?_⟩) hHeld ?_ ?_; rotate_left
           ·rintro w' ⟨s0, s1, s2, s3, s4, s5, s6, s7, s8⟩
            go_simp
            with_reducible rfl
           rotate_left
           ·simp only [Act.put, sA, sB, sC, i64_w, i32_w]
            rfl
           refine pure_ (i := 21) (N := some 76) (v := ?_) (a' := ?_) (bs 46 37748735) rfl rfl (any_of HT_.out (by kernel_rfl)) (fun _ _ _ h => h) (Or.inl ⟨by rfl, ?_⟩) ?_ ?_; rotate_left
           ·intro w'
            go_simp
            with_reducible rfl
           rotate_left
           ·simp only [Act.put, sA, sB, sC, i64_w, i32_w]
            rfl
           refine pure_ (i := 22) (N := some 77) (v := ?_) (a' := ?_) (bs 46 41943039) rfl rfl (any_of HT_.out (by kernel_rfl)) (fun _ _ _ h => h) (Or.inl ⟨by rfl, ?_⟩) ?_ ?_; rotate_left
           ·intro w'
            go_simp
            with_reducible rfl
           rotate_left
           ·simp only [Act.put, sA, sB, sC, i64_w, i32_w]
            rfl
           refine take_ (i := 23) (N := some 78) (v := ?_) (a' := ?_) (bs 46 50331647) rfl rfl (take_ofW HT_.out HW_.out (by kernel_rfl)) (fun _ _ _ h => h) (Or.inl ⟨by rfl, ?_⟩) hHeld ?_ ?_; rotate_left
           ·rintro w' ⟨s0, s1, s2, s3, s4, s5, s6, s7, s8⟩
            go_simp
            with_reducible rfl
           rotate_left
           ·simp only [Act.put, sA, sB, sC, i64_w, i32_w]
            rfl
           refine pure_ (i := 24) (N := some 79) (v := ?_) (a' := ?_) (bs 46 67108863) rfl rfl (any_of HT_.out (by kernel_rfl)) (fun _ _ _ h => h) (Or.inl ⟨by rfl, ?_⟩) ?_ ?_; rotate_left
           ·intro w'
            go_simp
            with_reducible rfl
           rotate_left
           ·simp only [Act.put, sA, sB, sC, i64_w, i32_w]
            rfl
           refine take_ (i := 26) (N := some 81) (v := ?_) (a' := ?_) (bs 46 134217727) rfl rfl (take_ofW HT_.out HW_.out (by kernel_rfl)) (fun _ _ _ h => h) (Or.inl ⟨by rfl, ?_⟩) hHeld ?_ ?_; rotate_left
           ·rintro w' ⟨s0, s1, s2, s3, s4, s5, s6, s7, s8⟩
            go_simp
            with_reducible rfl
           rotate_left
           ·simp only [Act.put, sA, sB, sC, i64_w, i32_w]
            rfl
           refine pure_ (i := 27) (N := some 82) (v := ?_) (a' := ?_) (bs 46 268435455) rfl rfl (any_of HT_.out (by kernel_rfl)) (fun _ _ _ h => h) (Or.inl ⟨by rfl, ?_⟩) ?_ ?_; rotate_left
           ·intro w'
            go_simp
            with_reducible rfl
           rotate_left
           ·simp only [Act.put, sA, sB, sC, i64_w, i32_w]
            rfl
           refine pure_ (i := 28) (N := some 83) (v := ?_) (a' := ?_) (bs 46 536870911) rfl rfl (any_of HT_.out (by kernel_rfl)) (fun _ _ _ h => h) (Or.inl ⟨by rfl, ?_⟩) ?_ ?_; rotate_left
           ·intro w'
            go_simp
            with_reducible rfl
           rotate_left
           ·simp only [Act.put, sA, sB, sC, i64_w, i32_w]
            rfl
           refine pure_ (i := 29) (N := some 84) (v := ?_) (a' := ?_) (bs 46 1073741823) rfl rfl (any_of HT_.out (by kernel_rfl)) (fun _ _ _ h => h) (Or.inl ⟨by rfl, ?_⟩) ?_ ?_; rotate_left
           ·intro w'
            go_simp
            with_reducible rfl
           rotate_left
           ·simp only [Act.put, sA, sB, sC, i64_w, i32_w]
            rfl
           refine pure_ (i := 30) (N := some 85) (v := undef) (a' := ?_) (bs 46 2147483647) rfl rfl (any_of HT_.out (by kernel_rfl)) (fun _ _ _ h => h) (Or.inr ⟨by rfl, rfl⟩) ?_ ?_; rotate_left
           ·simp only [Act.put, sA, sB, sC, i64_w, i32_w]
            rfl
           refine pure_ (i := 31) (N := some 86) (v := undef) (a' := ?_) (bs 46 4294967295) rfl rfl (any_of HT_.out (by kernel_rfl)) (fun _ _ _ h => h) (Or.inr ⟨by rfl, rfl⟩) ?_ ?_; rotate_left
           ·simp only [Act.put, sA, sB, sC, i64_w, i32_w]
            rfl
           refine pure_ (i := 32) (N := some 87) (v := undef) (a' := ?_) (bs 46 8589934591) rfl rfl (any_of HT_.out (by kernel_rfl)) (fun _ _ _ h => h) (Or.inr ⟨by rfl, rfl⟩) ?_ ?_; rotate_left
           ·simp only [Act.put, sA, sB, sC, i64_w, i32_w]
            rfl
           refine pure_ (i := 33) (N := some 88) (v := undef) (a' := ?_) (bs 46 17179869183) rfl rfl (any_of HT_.out (by kernel_rfl)) (fun _ _ _ h => h) (Or.inr ⟨by rfl, rfl⟩) ?_ ?_; rotate_left
           ·simp only [Act.put, sA, sB, sC, i64_w, i32_w]
            rfl
           refine pure_ (i := 34) (N := some 89) (v := undef) (a' := ?_) (bs 46 34359738367) rfl rfl (any_of HT_.out (by kernel_rfl)) (fun _ _ _ h => h) (Or.inr ⟨by rfl, rfl⟩) ?_ ?_; rotate_left
           ·simp only [Act.put, sA, sB, sC, i64_w, i32_w]
            rfl
           refine pure_ (i := 35) (N := some 90) (v := undef) (a' := ?_) (bs 46 68719476735) rfl rfl (any_of HT_.out (by kernel_rfl)) (fun _ _ _ h => h) (Or.inr ⟨by rfl, rfl⟩) ?_ ?_; rotate_left
           ·simp only [Act.put, sA, sB, sC, i64_w, i32_w]
            rfl
           refine pure_ (i := 36) (N := some 91) (v := undef) (a' := ?_) (bs 46 137438953471) rfl rfl (any_of HT_.out (by kernel_rfl)) (fun _ _ _ h => h) (Or.inr ⟨by rfl, rfl⟩) ?_ ?_; rotate_left
           ·simp only [Act.put, sA, sB, sC, i64_w, i32_w]
            rfl
           refine pure_ (i := 37) (N := some 92) (v := undef) (a' := ?_) (bs 46 274877906943) rfl rfl (any_of HT_.out (by kernel_rfl)) (fun _ _ _ h => h) (Or.inr ⟨by rfl, rfl⟩) ?_ ?_; rotate_left
           ·simp only [Act.put, sA, sB, sC, i64_w, i32_w]
            rfl
           refine pure_ (i := 38) (N := some 93) (v := ?_) (a' := ?_) (bs 46 549755813887) rfl rfl (any_of HT_.out (by kernel_rfl)) (fun _ _ _ h => h) (Or.inl ⟨by rfl, ?_⟩) ?_ ?_; rotate_left
           ·intro w'
            go_simp
            with_reducible rfl
           rotate_left
           ·simp only [Act.put, sA, sB, sC, i64_w, i32_w]
            rfl
           refine pure_ (i := 39) (N := some 94) (v := ?_) (a' := ?_) (bs 46 1099511627775) rfl rfl (any_of HT_.out (by kernel_rfl)) (fun _ _ _ h => h) (Or.inl ⟨by rfl, ?_⟩) ?_ ?_; rotate_left
           ·intro w'
            go_simp
            with_reducible rfl
           rotate_left
           ·simp only [Act.put, sA, sB, sC, i64_w, i32_w]
            rfl
           refine pure_ (i := 40) (N := some 95) (v := undef) (a' := ?_) (bs 46 2199023255551) rfl rfl (any_of HT_.out (by kernel_rfl)) (fun _ _ _ h => h) (Or.inr ⟨by rfl, rfl⟩) ?_ ?_; rotate_left
           ·simp only [Act.put, sA, sB, sC, i64_w, i32_w]
            rfl
           refine pure_ (i := 41) (N := some 96) (v := undef) (a' := ?_) (bs 46 4398046511103) rfl rfl (any_of HT_.out (by kernel_rfl)) (fun _ _ _ h => h) (Or.inr ⟨by rfl, rfl⟩) ?_ ?_; rotate_left
           ·simp only [Act.put, sA, sB, sC, i64_w, i32_w]
            rfl
           refine pure_ (i := 42) (N := some 97) (v := undef) (a' := ?_) (bs 46 8796093022207) rfl rfl (any_of HT_.out (by kernel_rfl)) (fun _ _ _ h => h) (Or.inr ⟨by rfl, rfl⟩) ?_ ?_; rotate_left
           ·simp only [Act.put, sA, sB, sC, i64_w, i32_w]
            rfl
           refine pure_ (i := 43) (N := some 98) (v := undef) (a' := ?_) (bs 46 17592186044415) rfl rfl (any_of HT_.out (by kernel_rfl)) (fun _ _ _ h => h) (Or.inr ⟨by rfl, rfl⟩) ?_ ?_; rotate_left
           ·simp only [Act.put, sA, sB, sC, i64_w, i32_w]
            rfl
           refine pure_ (i := 44) (N := some 99) (v := undef) (a' := ?_) (bs 46 35184372088831) rfl rfl (any_of HT_.out (by kernel_rfl)) (fun _ _ _ h => h) (Or.inr ⟨by rfl, rfl⟩) ?_ ?_; rotate_left
           ·simp only [Act.put, sA, sB, sC, i64_w, i32_w]
            rfl
           refine pure_ (i := 45) (N := some 100) (v := ?_) (a' := ?_) (bs 46 70368744177663) rfl rfl (any_of HT_.out (by kernel_rfl)) (fun _ _ _ h => h) (Or.inl ⟨by rfl, ?_⟩) ?_ ?_; rotate_left
           ·intro w'
            go_simp
            with_reducible rfl
           rotate_left
           ·simp only [Act.put, sA, sB, sC, i64_w, i32_w]
            rfl
           refine done_ (done_of HT_.out (by kernel_rfl)) ?_
           try go_wp2
           go_meet
           case rel => exact ⟨_, (true), (by first | rfl | (simp; done) | (simp [*]; done)), H', ⟨by have := HJ5.out; first | omega | exact Nat.le_refl _⟩, ⟨by exact HO555.out⟩, ⟨by exact HO562.out⟩, ⟨by exact BK549.out⟩, ⟨by exact BK559.out⟩, ⟨by exact BK566.out⟩, ⟨by repeat (first | (with_reducible first | exact HB.out | apply bL | apply bP | apply bD | refine bS ?_ GE549.out | refine bS ?_ GE559.out | refine bS ?_ GE566.out) | exact HB.out)⟩⟩
         ·rw [if_neg c43] at H
          exact absurd H (by simp)
        ·rw [if_neg c42] at H
         exact absurd H (by simp)
       ·as_aux_lemma =>
        rw [if_neg c41] at H
        have c41b0 : ((t560.length : Int) == (l0_0.length : Int)) = false := beq_eq_false_iff_ne.mpr c41; have c41b1 : ((t560.length : Int) != (l0_0.length : Int)) = true := bne_iff_ne.mpr c41
        have c41b2 : (t560.length == l0_0.length) = false := by first | simpa using c41 | (simp at c41 ⊢; omega)
        have H' := zA H; clear H
        try go_wp2
        have n0_ : Aside0 (Kd.V k41 41 (((w33.setCell ⟨gb566, 0, none⟩ (.slice Ao34 t560.length co34)).setCell ⟨gb566, 1, none⟩ (.int .i64 t563)).setCell ⟨gb566, 2, none⟩ (.int .i64 t564)) w.heap.size (fun k_ => k_ ≠ gb549 ∧ k_ ≠ gb559 ∧ k_ ≠ gb566) (.slice Ao28 t553.length co28) t553) := ⟨by exact Kd.V_mono (Kd.V_far (p := ⟨gb566, 2, none⟩) (Kd.V_far (p := ⟨gb566, 1, none⟩) (Kd.V_far (p := ⟨gb566, 0, none⟩) (Kd.V_mono HO555.out (fun k_ hk => (⟨hk, hk.2⟩ : _ ∧ k_ ≠ gb566))) (fun _ hk => hk.2) (.slice Ao34 t560.length co34)) (fun _ hk => hk.2) (.int .i64 t563)) (fun _ hk => hk.2) (.int .i64 t564)) (fun _ hk => ⟨hk.1.1.1, ⟨hk.1.1.2, hk.1.2⟩⟩)⟩; have n1_ : Aside0 (Kd.V k41 41 (((w33.setCell ⟨gb566, 0, none⟩ (.slice Ao34 t560.length co34)).setCell ⟨gb566, 1, none⟩ (.int .i64 t563)).setCell ⟨gb566, 2, none⟩ (.int .i64 t564)) w.heap.size (fun k_ => k_ ≠ gb549 ∧ k_ ≠ gb559 ∧ k_ ≠ gb566) (.slice Ao34 t560.length co34) t560) := ⟨by exact Kd.V_mono (Kd.V_far (p := ⟨gb566, 2, none⟩) (Kd.V_far (p := ⟨gb566, 1, none⟩) (Kd.V_far (p := ⟨gb566, 0, none⟩) (Kd.V_mono HO562.out (fun k_ hk => (⟨hk, hk.2⟩ : _ ∧ k_ ≠ gb566))) (fun _ hk => hk.2) (.slice Ao34 t560.length co34)) (fun _ hk => hk.2) (.int .i64 t563)) (fun _ hk => hk.2) (.int .i64 t564)) (fun _ hk => ⟨hk.1.1.1, ⟨hk.1.1.2, hk.1.2⟩⟩)⟩; have n2_ : Aside0 ((((w33.setCell ⟨gb566, 0, none⟩ (.slice Ao34 t560.length co34)).setCell ⟨gb566, 1, none⟩ (.int .i64 t563)).setCell ⟨gb566, 2, none⟩ (.int .i64 t564)).heap[gb549]? = some (.cells #[.slice A0_0 l0_0.length c0_0, .int .i64 a0_1, .int .i64 a0_2] 24 (0, 0))) := ⟨by refine blk_far ?_ NB549_566.out _; refine blk_far ?_ NB549_566.out _; refine blk_far ?_ NB549_566.out _; exact BK549.out⟩; have n3_ : Aside0 ((((w33.setCell ⟨gb566, 0, none⟩ (.slice Ao34 t560.length co34)).setCell ⟨gb566, 1, none⟩ (.int .i64 t563)).setCell ⟨gb566, 2, none⟩ (.int .i64 t564)).heap[gb559]? = some (.cells #[.slice Ao28 t553.length co28, .int .i64 t556, .int .i64 t557] 24 (0, 0))) := ⟨by refine blk_far ?_ NB559_566.out _; refine blk_far ?_ NB559_566.out _; refine blk_far ?_ NB559_566.out _; exact BK559.out⟩; have n4_ : Aside0 ((((w33.setCell ⟨gb566, 0, none⟩ (.slice Ao34 t560.length co34)).setCell ⟨gb566, 1, none⟩ (.int .i64 t563)).setCell ⟨gb566, 2, none⟩ (.int .i64 t564)).heap[gb566]? = some (.cells #[.slice Ao34 t560.length co34, .int .i64 t563, .int .i64 t564] 24 (0, 0))) := ⟨by refine blk_put (cs := #[.slice Ao34 t560.length co34, .int .i64 t563, .int .i64 0]) ?_ 2 _ rfl; refine blk_put (cs := #[.slice Ao34 t560.length co34, .int .i64 0, .int .i64 0]) ?_ 1 _ rfl; refine blk_put (cs := #[.slice none 0 0, .int .i64 0, .int .i64 0]) ?_ 0 _ rfl; exact BK566.out⟩
        have n5_ : Aside0 (Below w.heap.size w (((w33.setCell ⟨gb566, 0, none⟩ (.slice Ao34 t560.length co34)).setCell ⟨gb566, 1, none⟩ (.int .i64 t563)).setCell ⟨gb566, 2, none⟩ (.int .i64 t564))) := ⟨by repeat (first | (with_reducible first | exact HB.out | apply bL | apply bP | apply bD | refine bS ?_ GE549.out | refine bS ?_ GE559.out | refine bS ?_ GE566.out) | exact HB.out)⟩
        (try clear HO555)
        (try clear HO562)
        (try clear BK549)
        (try clear BK559)
        (try clear BK566)
        (try clear HB)
        generalize (((w33.setCell ⟨gb566, 0, none⟩ (.slice Ao34 t560.length co34)).setCell ⟨gb566, 1, none⟩ (.int .i64 t563)).setCell ⟨gb566, 2, none⟩ (.int .i64 t564)) = w56 at n0_ n1_ n2_ n3_ n4_ n5_ ⊢
        have HO555 := n0_; have HO562 := n1_; have BK549 := n2_; have BK559 := n3_; have BK566 := n4_; have HB := n5_; clear n0_ n1_ n2_ n3_ n4_ n5_; have n0_ := zA (Kd.V_drew HO555.out); have n1_ := zA (Kd.V_drew HO562.out); have n2_ := zA (bW BK549.out); have n3_ := zA (bW BK559.out); have n4_ := zA (bW BK566.out); have n5_ := zA (bD HB.out); clear HO555; clear HO562; clear BK549; clear BK559; clear BK566; clear HB; have HO555 := n0_; have HO562 := n1_; have BK549 := n2_; have BK559 := n3_; have BK566 := n4_; have HB := n5_; clear n0_ n1_ n2_ n3_ n4_ n5_; refine start_ (n := 46) (S := fun w' => w'.cell? ⟨gb566, 0, none⟩ = some (.slice Ao34 t560.length co34) ∧ w'.cell? ⟨gb566, 1, none⟩ = some (.int .i64 t563) ∧ w'.cell? ⟨gb566, 2, none⟩ = some (.int .i64 t564) ∧ w'.cell? ⟨gb549, 0, none⟩ = some (.slice A0_0 l0_0.length c0_0) ∧ w'.cell? ⟨gb549, 1, none⟩ = some (.int .i64 a0_1) ∧ w'.cell? ⟨gb549, 2, none⟩ = some (.int .i64 a0_2)) (ds := []) (bs 46 0) (by kernel_rfl) rfl rfl ⟨(blk_cell BK566.out 0).trans rfl, (blk_cell BK566.out 1).trans rfl, (blk_cell BK566.out 2).trans rfl, (blk_cell BK549.out 0).trans rfl, (blk_cell BK549.out 1).trans rfl, (blk_cell BK549.out 2).trans rfl⟩ (fun hHeld => ?_); refine with_tabW reelkeeperlaw13_DriveLost.tab7 reelkeeperlaw13_DriveLost.bits7 (fun HT_ HW_ => ?_)
        generalize w56.drew = w57 at HO555 HO562 BK549 BK559 BK566 HB hHeld ⊢
        refine pure_ (i := 0) (N := some 55) (v := ?_) (a' := ?_) (bs 46 1) rfl rfl (any_of HT_.out (by kernel_rfl)) (fun _ _ _ h => h) (Or.inl ⟨by rfl, ?_⟩) ?_ ?_; rotate_left
        ·intro w'
         go_simp
         with_reducible rfl
        rotate_left
        ·simp only [Act.put, sA, sB, sC, i64_w, i32_w]
         rfl
        refine pure_ (i := 1) (N := some 56) (v := ?_) (a' := ?_) (bs 46 3) rfl rfl (any_of HT_.out (by kernel_rfl)) (fun _ _ _ h => h) (Or.inl ⟨by rfl, ?_⟩) ?_ ?_; rotate_left
        ·intro w'
         go_simp
         with_reducible rfl
        rotate_left
        ·simp only [Act.put, sA, sB, sC, i64_w, i32_w]
         rfl
        refine pure_ (i := 2) (N := some 57) (v := ?_) (a' := ?_) (bs 46 7) rfl rfl (any_of HT_.out (by kernel_rfl)) (fun _ _ _ h => h) (Or.inl ⟨by rfl, ?_⟩) ?_ ?_; rotate_left
        ·intro w'
         go_simp
         with_reducible rfl
        rotate_left
        ·simp only [Act.put, sA, sB, sC, i64_w, i32_w]
         rfl
        refine take_ (i := 3) (N := some 58) (v := ?_) (a' := ?_) (bs 46 15) rfl rfl (take_ofW HT_.out HW_.out (by kernel_rfl)) (fun _ _ _ h => h) (Or.inl ⟨by rfl, ?_⟩) hHeld ?_ ?_; rotate_left
        ·rintro w' ⟨s0, s1, s2, s3, s4, s5⟩
         go_simp
         with_reducible rfl
        rotate_left
        ·simp only [Act.put, sA, sB, sC, i64_w, i32_w]
         rfl
        refine one_ (i := 4) (N := some 59) (bs 46 31) rfl rfl (one_of HT_.out (by kernel_rfl)) (by decide) (fun K hK => ?_); refine goes_ Try.func27 (by kernel_rfl) rfl #[.agg #[.slice Ao34 t560.length co34, .int .i64 t563, .int .i64 t564]] (by rfl) rfl rfl (by (try simp only [List.map_toArray, List.map_cons, List.map_nil]); first | done | rfl | (simp only [List.length_drop, List.length_take]; rfl)) ?_
        with_reducible refine (drive_May.calls _ _ t560 t563 t564 true _ ?side1 ?side2 A39.out).mono ?_
        (case side1 => repeat (first | exact (Kd.V_reads' HO562.out).2.2 | (with_reducible refine Kd.C_alloc ?_ _) | (with_reducible refine Kd.C_drewN ?_ _) | (with_reducible refine Kd.C_drew ?_)))
        (case side2 => exact (Kd.V_reads' HO562.out).2.1)
        rintro e w58 ⟨rfl, hb⟩
        refine ⟨_, rfl, ?_⟩; have n0_ := zA (Kd.V_below HO555.out hb); have n1_ := zA (Kd.V_below HO562.out hb); have n2_ := zA (bK BK549.out hb); have n3_ := zA (bK BK559.out hb); have n4_ := zA (bK BK566.out hb); have n5_ := zA (below_step (by repeat (first | (with_reducible first | exact HB.out | apply bL | apply bP | apply bD | refine bS ?_ GE549.out | refine bS ?_ GE559.out | refine bS ?_ GE566.out) | exact HB.out)) hb); clear HO555; clear HO562; clear BK549; clear BK559; clear BK566; clear HB; have HO555 := n0_; have HO562 := n1_; have BK549 := n2_; have BK559 := n3_; have BK566 := n4_; have HB := n5_; clear n0_ n1_ n2_ n3_ n4_ n5_
        (try clear hb)
        (try clear hb2)
        (try clear hk)
        (try clear hi)
        refine hK.out _ _ ⟨(blk_cell BK566.out 0).trans rfl, (blk_cell BK566.out 1).trans rfl, (blk_cell BK566.out 2).trans rfl, (blk_cell BK549.out 0).trans rfl, (blk_cell BK549.out 1).trans rfl, (blk_cell BK549.out 2).trans rfl⟩ (fun hHeld => ?_); clear hK K; refine norm_ (a' := ?_) ?_ ?_; rotate_left
        ·show Act.put _ (some 59) _ = _
         simp only [Act.put, sA, sB, sC, i64_w, i32_w]
         rfl
        refine pure_ (i := 5) (N := some 60) (v := ?_) (a' := ?_) (bs 46 63) rfl rfl (any_of HT_.out (by kernel_rfl)) (fun _ _ _ h => h) (Or.inl ⟨by rfl, ?_⟩) ?_ ?_; rotate_left
        ·intro w'
         go_simp
         with_reducible rfl
        rotate_left
        ·simp only [Act.put, sA, sB, sC, i64_w, i32_w]
         rfl
        refine pure_ (i := 6) (N := some 61) (v := ?_) (a' := ?_) (bs 46 127) rfl rfl (any_of HT_.out (by kernel_rfl)) (fun _ _ _ h => h) (Or.inl ⟨by rfl, ?_⟩) ?_ ?_; rotate_left
        ·intro w'
         go_simp
         with_reducible rfl
        rotate_left
        ·simp only [Act.put, sA, sB, sC, i64_w, i32_w]
         rfl
        refine pure_ (i := 7) (N := some 62) (v := ?_) (a' := ?_) (bs 46 255) rfl rfl (any_of HT_.out (by kernel_rfl)) (fun _ _ _ h => h) (Or.inl ⟨by rfl, ?_⟩) ?_ ?_; rotate_left
        ·intro w'
         go_simp
         with_reducible rfl
        rotate_left
        ·simp only [Act.put, sA, sB, sC, i64_w, i32_w]
         rfl
        refine pure_ (i := 8) (N := some 63) (v := ?_) (a' := ?_) (bs 46 511) rfl rfl (any_of HT_.out (by kernel_rfl)) (fun _ _ _ h => h) (Or.inl ⟨by rfl, ?_⟩) ?_ ?_; rotate_left
        ·intro w'
         go_simp
         with_reducible rfl
        rotate_left
        ·simp only [Act.put, sA, sB, sC, i64_w, i32_w]
         rfl
        refine pure_ (i := 11) (N := some 66) (v := ?_) (a' := ?_) (bs 46 2559) rfl rfl (any_of HT_.out (by kernel_rfl)) (fun _ _ _ h => h) (Or.inl ⟨by rfl, ?_⟩) ?_ ?_; rotate_left
        ·intro w'
         go_simp
         with_reducible rfl
        rotate_left
        ·simp only [Act.put, sA, sB, sC, i64_w, i32_w]
         rfl
        refine take_ (i := 9) (N := some 64) (v := ?_) (a' := ?_) (bs 46 3071) rfl rfl (take_ofW HT_.out HW_.out (by kernel_rfl)) (fun _ _ _ h => h) (Or.inl ⟨by rfl, ?_⟩) hHeld ?_ ?_; rotate_left
        ·rintro w' ⟨s0, s1, s2, s3, s4, s5⟩
         go_simp
         with_reducible rfl
        rotate_left
        ·simp only [Act.put, sA, sB, sC, i64_w, i32_w]
         rfl
        refine pure_ (i := 10) (N := some 65) (v := ?_) (a' := ?_) (bs 46 4095) rfl rfl (any_of HT_.out (by kernel_rfl)) (fun _ _ _ h => h) (Or.inl ⟨by rfl, ?_⟩) ?_ ?_; rotate_left
        ·intro w'
         go_simp
         with_reducible rfl
        rotate_left
        ·simp only [Act.put, sA, sB, sC, i64_w, i32_w]
         rfl
        refine take_ (i := 12) (N := some 67) (v := ?_) (a' := ?_) (bs 46 8191) rfl rfl (take_ofW HT_.out HW_.out (by kernel_rfl)) (fun _ _ _ h => h) (Or.inl ⟨by rfl, ?_⟩) hHeld ?_ ?_; rotate_left
        ·rintro w' ⟨s0, s1, s2, s3, s4, s5⟩
         go_simp
         with_reducible rfl
        rotate_left
        ·simp only [Act.put, sA, sB, sC, i64_w, i32_w]
         rfl
        refine pure_ (i := 13) (N := some 68) (v := ?_) (a' := ?_) (bs 46 16383) rfl rfl (any_of HT_.out (by kernel_rfl)) (fun _ _ _ h => h) (Or.inl ⟨by rfl, ?_⟩) ?_ ?_; rotate_left
        ·intro w'
         go_simp
         with_reducible rfl
        rotate_left
        ·simp only [Act.put, sA, sB, sC, i64_w, i32_w]
         rfl
        refine pure_ (i := 14) (N := some 69) (v := ?_) (a' := ?_) (bs 46 32767) rfl rfl (any_of HT_.out (by kernel_rfl)) (fun _ _ _ h => h) (Or.inl ⟨by rfl, ?_⟩) ?_ ?_; rotate_left
        ·intro w'
         go_simp
         with_reducible rfl
        rotate_left
        ·simp only [Act.put, sA, sB, sC, i64_w, i32_w]
         rfl
        refine pure_ (i := 15) (N := some 70) (v := ?_) (a' := ?_) (bs 46 65535) rfl rfl (any_of HT_.out (by kernel_rfl)) (fun _ _ _ h => h) (Or.inl ⟨by rfl, ?_⟩) ?_ ?_; rotate_left
        ·intro w'
         go_simp
         with_reducible rfl
        rotate_left
        ·simp only [Act.put, sA, sB, sC, i64_w, i32_w]
         rfl
        refine pure_ (i := 16) (N := some 71) (v := ?_) (a' := ?_) (bs 46 131071) rfl rfl (any_of HT_.out (by kernel_rfl)) (fun _ _ _ h => h) (Or.inl ⟨by rfl, ?_⟩) ?_ ?_; rotate_left
        ·intro w'
         go_simp
         with_reducible rfl
        rotate_left
        ·simp only [Act.put, sA, sB, sC, i64_w, i32_w]
         rfl
        refine pure_ (i := 17) (N := some 72) (v := undef) (a' := ?_) (bs 46 262143) rfl rfl (any_of HT_.out (by kernel_rfl)) (fun _ _ _ h => h) (Or.inr ⟨by rfl, rfl⟩) ?_ ?_; rotate_left
        ·simp only [Act.put, sA, sB, sC, i64_w, i32_w]
         rfl
        refine pure_ (i := 18) (N := some 73) (v := undef) (a' := ?_) (bs 46 524287) rfl rfl (any_of HT_.out (by kernel_rfl)) (fun _ _ _ h => h) (Or.inr ⟨by rfl, rfl⟩) ?_ ?_; rotate_left
        ·simp only [Act.put, sA, sB, sC, i64_w, i32_w]
         rfl
        refine pure_ (i := 19) (N := some 74) (v := undef) (a' := ?_) (bs 46 1048575) rfl rfl (any_of HT_.out (by kernel_rfl)) (fun _ _ _ h => h) (Or.inr ⟨by rfl, rfl⟩) ?_ ?_; rotate_left
        ·simp only [Act.put, sA, sB, sC, i64_w, i32_w]
         rfl
        refine pure_ (i := 20) (N := some 75) (v := undef) (a' := ?_) (bs 46 2097151) rfl rfl (any_of HT_.out (by kernel_rfl)) (fun _ _ _ h => h) (Or.inr ⟨by rfl, rfl⟩) ?_ ?_; rotate_left
        ·simp only [Act.put, sA, sB, sC, i64_w, i32_w]
         rfl
        refine pure_ (i := 21) (N := some 76) (v := undef) (a' := ?_) (bs 46 4194303) rfl rfl (any_of HT_.out (by kernel_rfl)) (fun _ _ _ h => h) (Or.inr ⟨by rfl, rfl⟩) ?_ ?_; rotate_left
        ·simp only [Act.put, sA, sB, sC, i64_w, i32_w]
         rfl
        refine pure_ (i := 22) (N := some 77) (v := undef) (a' := ?_) (bs 46 8388607) rfl rfl (any_of HT_.out (by kernel_rfl)) (fun _ _ _ h => h) (Or.inr ⟨by rfl, rfl⟩) ?_ ?_; rotate_left
        ·simp only [Act.put, sA, sB, sC, i64_w, i32_w]
         rfl
        refine pure_ (i := 23) (N := some 78) (v := undef) (a' := ?_) (bs 46 16777215) rfl rfl (any_of HT_.out (by kernel_rfl)) (fun _ _ _ h => h) (Or.inr ⟨by rfl, rfl⟩) ?_ ?_; rotate_left
        ·simp only [Act.put, sA, sB, sC, i64_w, i32_w]
         rfl
        refine pure_ (i := 24) (N := some 79) (v := undef) (a' := ?_) (bs 46 33554431) rfl rfl (any_of HT_.out (by kernel_rfl)) (fun _ _ _ h => h) (Or.inr ⟨by rfl, rfl⟩) ?_ ?_; rotate_left
        ·simp only [Act.put, sA, sB, sC, i64_w, i32_w]
         rfl
        refine pure_ (i := 25) (N := some 80) (v := undef) (a' := ?_) (bs 46 67108863) rfl rfl (any_of HT_.out (by kernel_rfl)) (fun _ _ _ h => h) (Or.inr ⟨by rfl, rfl⟩) ?_ ?_; rotate_left
        ·simp only [Act.put, sA, sB, sC, i64_w, i32_w]
         rfl
        refine pure_ (i := 26) (N := some 81) (v := undef) (a' := ?_) (bs 46 134217727) rfl rfl (any_of HT_.out (by kernel_rfl)) (fun _ _ _ h => h) (Or.inr ⟨by rfl, rfl⟩) ?_ ?_; rotate_left
        ·simp only [Act.put, sA, sB, sC, i64_w, i32_w]
         rfl
        refine pure_ (i := 27) (N := some 82) (v := undef) (a' := ?_) (bs 46 268435455) rfl rfl (any_of HT_.out (by kernel_rfl)) (fun _ _ _ h => h) (Or.inr ⟨by rfl, rfl⟩) ?_ ?_; rotate_left
        ·simp only [Act.put, sA, sB, sC, i64_w, i32_w]
         rfl
        refine pure_ (i := 28) (N := some 83) (v := ?_) (a' := ?_) (bs 46 536870911) rfl rfl (any_of HT_.out (by kernel_rfl)) (fun _ _ _ h => h) (Or.inl ⟨by rfl, ?_⟩) ?_ ?_; rotate_left
        ·intro w'
         go_simp
         with_reducible rfl
        rotate_left
        ·simp only [Act.put, sA, sB, sC, i64_w, i32_w]
         rfl
        refine pure_ (i := 29) (N := some 84) (v := ?_) (a' := ?_) (bs 46 1073741823) rfl rfl (any_of HT_.out (by kernel_rfl)) (fun _ _ _ h => h) (Or.inl ⟨by rfl, ?_⟩) ?_ ?_; rotate_left
        ·intro w'
         go_simp
         with_reducible rfl
        rotate_left
        ·simp only [Act.put, sA, sB, sC, i64_w, i32_w]
         rfl
        refine pure_ (i := 30) (N := some 85) (v := undef) (a' := ?_) (bs 46 2147483647) rfl rfl (any_of HT_.out (by kernel_rfl)) (fun _ _ _ h => h) (Or.inr ⟨by rfl, rfl⟩) ?_ ?_; rotate_left
        ·simp only [Act.put, sA, sB, sC, i64_w, i32_w]
         rfl
        refine pure_ (i := 31) (N := some 86) (v := undef) (a' := ?_) (bs 46 4294967295) rfl rfl (any_of HT_.out (by kernel_rfl)) (fun _ _ _ h => h) (Or.inr ⟨by rfl, rfl⟩) ?_ ?_; rotate_left
        ·simp only [Act.put, sA, sB, sC, i64_w, i32_w]
         rfl
        refine pure_ (i := 32) (N := some 87) (v := undef) (a' := ?_) (bs 46 8589934591) rfl rfl (any_of HT_.out (by kernel_rfl)) (fun _ _ _ h => h) (Or.inr ⟨by rfl, rfl⟩) ?_ ?_; rotate_left
        ·simp only [Act.put, sA, sB, sC, i64_w, i32_w]
         rfl
        refine pure_ (i := 33) (N := some 88) (v := undef) (a' := ?_) (bs 46 17179869183) rfl rfl (any_of HT_.out (by kernel_rfl)) (fun _ _ _ h => h) (Or.inr ⟨by rfl, rfl⟩) ?_ ?_; rotate_left
        ·simp only [Act.put, sA, sB, sC, i64_w, i32_w]
         rfl
        refine pure_ (i := 34) (N := some 89) (v := undef) (a' := ?_) (bs 46 34359738367) rfl rfl (any_of HT_.out (by kernel_rfl)) (fun _ _ _ h => h) (Or.inr ⟨by rfl, rfl⟩) ?_ ?_; rotate_left
        ·simp only [Act.put, sA, sB, sC, i64_w, i32_w]
         rfl
        refine pure_ (i := 35) (N := some 90) (v := undef) (a' := ?_) (bs 46 68719476735) rfl rfl (any_of HT_.out (by kernel_rfl)) (fun _ _ _ h => h) (Or.inr ⟨by rfl, rfl⟩) ?_ ?_; rotate_left
        ·simp only [Act.put, sA, sB, sC, i64_w, i32_w]
         rfl
        refine pure_ (i := 36) (N := some 91) (v := undef) (a' := ?_) (bs 46 137438953471) rfl rfl (any_of HT_.out (by kernel_rfl)) (fun _ _ _ h => h) (Or.inr ⟨by rfl, rfl⟩) ?_ ?_; rotate_left
        ·simp only [Act.put, sA, sB, sC, i64_w, i32_w]
         rfl
        refine pure_ (i := 37) (N := some 92) (v := undef) (a' := ?_) (bs 46 274877906943) rfl rfl (any_of HT_.out (by kernel_rfl)) (fun _ _ _ h => h) (Or.inr ⟨by rfl, rfl⟩) ?_ ?_; rotate_left
        ·simp only [Act.put, sA, sB, sC, i64_w, i32_w]
         rfl
        refine pure_ (i := 38) (N := some 93) (v := ?_) (a' := ?_) (bs 46 549755813887) rfl rfl (any_of HT_.out (by kernel_rfl)) (fun _ _ _ h => h) (Or.inl ⟨by rfl, ?_⟩) ?_ ?_; rotate_left
        ·intro w'
         go_simp
         with_reducible rfl
        rotate_left
        ·simp only [Act.put, sA, sB, sC, i64_w, i32_w]
         rfl
        refine pure_ (i := 39) (N := some 94) (v := ?_) (a' := ?_) (bs 46 1099511627775) rfl rfl (any_of HT_.out (by kernel_rfl)) (fun _ _ _ h => h) (Or.inl ⟨by rfl, ?_⟩) ?_ ?_; rotate_left
        ·intro w'
         go_simp
         with_reducible rfl
        rotate_left
        ·simp only [Act.put, sA, sB, sC, i64_w, i32_w]
         rfl
        refine pure_ (i := 40) (N := some 95) (v := undef) (a' := ?_) (bs 46 2199023255551) rfl rfl (any_of HT_.out (by kernel_rfl)) (fun _ _ _ h => h) (Or.inr ⟨by rfl, rfl⟩) ?_ ?_; rotate_left
        ·simp only [Act.put, sA, sB, sC, i64_w, i32_w]
         rfl
        refine pure_ (i := 41) (N := some 96) (v := undef) (a' := ?_) (bs 46 4398046511103) rfl rfl (any_of HT_.out (by kernel_rfl)) (fun _ _ _ h => h) (Or.inr ⟨by rfl, rfl⟩) ?_ ?_; rotate_left
        ·simp only [Act.put, sA, sB, sC, i64_w, i32_w]
         rfl
        refine pure_ (i := 42) (N := some 97) (v := undef) (a' := ?_) (bs 46 8796093022207) rfl rfl (any_of HT_.out (by kernel_rfl)) (fun _ _ _ h => h) (Or.inr ⟨by rfl, rfl⟩) ?_ ?_; rotate_left
        ·simp only [Act.put, sA, sB, sC, i64_w, i32_w]
         rfl
        refine pure_ (i := 43) (N := some 98) (v := undef) (a' := ?_) (bs 46 17592186044415) rfl rfl (any_of HT_.out (by kernel_rfl)) (fun _ _ _ h => h) (Or.inr ⟨by rfl, rfl⟩) ?_ ?_; rotate_left
        ·simp only [Act.put, sA, sB, sC, i64_w, i32_w]
         rfl
        refine pure_ (i := 44) (N := some 99) (v := undef) (a' := ?_) (bs 46 35184372088831) rfl rfl (any_of HT_.out (by kernel_rfl)) (fun _ _ _ h => h) (Or.inr ⟨by rfl, rfl⟩) ?_ ?_; rotate_left
        ·simp only [Act.put, sA, sB, sC, i64_w, i32_w]
         rfl
        refine pure_ (i := 45) (N := some 100) (v := ?_) (a' := ?_) (bs 46 70368744177663) rfl rfl (any_of HT_.out (by kernel_rfl)) (fun _ _ _ h => h) (Or.inl ⟨by rfl, ?_⟩) ?_ ?_; rotate_left
        ·intro w'
         go_simp
         with_reducible rfl
        rotate_left
        ·simp only [Act.put, sA, sB, sC, i64_w, i32_w]
         rfl
        refine done_ (done_of HT_.out (by kernel_rfl)) ?_
        try go_wp2
        go_meet
        case rel => exact ⟨_, (true), (by first | rfl | (simp; done) | (simp [*]; done)), H', ⟨by have := HJ5.out; first | omega | exact Nat.le_refl _⟩, ⟨by exact HO555.out⟩, ⟨by exact HO562.out⟩, ⟨by exact BK549.out⟩, ⟨by exact BK559.out⟩, ⟨by exact BK566.out⟩, ⟨by repeat (first | (with_reducible first | exact HB.out | apply bL | apply bP | apply bD | refine bS ?_ GE549.out | refine bS ?_ GE559.out | refine bS ?_ GE566.out) | exact HB.out)⟩⟩
      ·replace c40 := Bool.eq_false_iff.mpr c40
       subst c40
       have H1 : (reelkeeperlaw13_DriveLost.j1 kj5 a2 t558 true l0_0 a0_1 a0_2 t553 t556 t557 t560 t563 t564) = some r := by rw [if_neg (show ¬ (false = true) by decide)] at H; exact H
       clear H; have H := H1; clear H1; have H' := zA H; clear H
       try go_wp2
       have n0_ : Aside0 (Kd.V k41 41 (((w33.setCell ⟨gb566, 0, none⟩ (.slice Ao34 t560.length co34)).setCell ⟨gb566, 1, none⟩ (.int .i64 t563)).setCell ⟨gb566, 2, none⟩ (.int .i64 t564)) w.heap.size (fun k_ => k_ ≠ gb549 ∧ k_ ≠ gb559 ∧ k_ ≠ gb566) (.slice Ao28 t553.length co28) t553) := ⟨by exact Kd.V_mono (Kd.V_far (p := ⟨gb566, 2, none⟩) (Kd.V_far (p := ⟨gb566, 1, none⟩) (Kd.V_far (p := ⟨gb566, 0, none⟩) (Kd.V_mono HO555.out (fun k_ hk => (⟨hk, hk.2⟩ : _ ∧ k_ ≠ gb566))) (fun _ hk => hk.2) (.slice Ao34 t560.length co34)) (fun _ hk => hk.2) (.int .i64 t563)) (fun _ hk => hk.2) (.int .i64 t564)) (fun _ hk => ⟨hk.1.1.1, ⟨hk.1.1.2, hk.1.2⟩⟩)⟩; have n1_ : Aside0 (Kd.V k41 41 (((w33.setCell ⟨gb566, 0, none⟩ (.slice Ao34 t560.length co34)).setCell ⟨gb566, 1, none⟩ (.int .i64 t563)).setCell ⟨gb566, 2, none⟩ (.int .i64 t564)) w.heap.size (fun k_ => k_ ≠ gb549 ∧ k_ ≠ gb559 ∧ k_ ≠ gb566) (.slice Ao34 t560.length co34) t560) := ⟨by exact Kd.V_mono (Kd.V_far (p := ⟨gb566, 2, none⟩) (Kd.V_far (p := ⟨gb566, 1, none⟩) (Kd.V_far (p := ⟨gb566, 0, none⟩) (Kd.V_mono HO562.out (fun k_ hk => (⟨hk, hk.2⟩ : _ ∧ k_ ≠ gb566))) (fun _ hk => hk.2) (.slice Ao34 t560.length co34)) (fun _ hk => hk.2) (.int .i64 t563)) (fun _ hk => hk.2) (.int .i64 t564)) (fun _ hk => ⟨hk.1.1.1, ⟨hk.1.1.2, hk.1.2⟩⟩)⟩; have n2_ : Aside0 ((((w33.setCell ⟨gb566, 0, none⟩ (.slice Ao34 t560.length co34)).setCell ⟨gb566, 1, none⟩ (.int .i64 t563)).setCell ⟨gb566, 2, none⟩ (.int .i64 t564)).heap[gb549]? = some (.cells #[.slice A0_0 l0_0.length c0_0, .int .i64 a0_1, .int .i64 a0_2] 24 (0, 0))) := ⟨by refine blk_far ?_ NB549_566.out _; refine blk_far ?_ NB549_566.out _; refine blk_far ?_ NB549_566.out _; exact BK549.out⟩; have n3_ : Aside0 ((((w33.setCell ⟨gb566, 0, none⟩ (.slice Ao34 t560.length co34)).setCell ⟨gb566, 1, none⟩ (.int .i64 t563)).setCell ⟨gb566, 2, none⟩ (.int .i64 t564)).heap[gb559]? = some (.cells #[.slice Ao28 t553.length co28, .int .i64 t556, .int .i64 t557] 24 (0, 0))) := ⟨by refine blk_far ?_ NB559_566.out _; refine blk_far ?_ NB559_566.out _; refine blk_far ?_ NB559_566.out _; exact BK559.out⟩; have n4_ : Aside0 ((((w33.setCell ⟨gb566, 0, none⟩ (.slice Ao34 t560.length co34)).setCell ⟨gb566, 1, none⟩ (.int .i64 t563)).setCell ⟨gb566, 2, none⟩ (.int .i64 t564)).heap[gb566]? = some (.cells #[.slice Ao34 t560.length co34, .int .i64 t563, .int .i64 t564] 24 (0, 0))) := ⟨by refine blk_put (cs := #[.slice Ao34 t560.length co34, .int .i64 t563, .int .i64 0]) ?_ 2 _ rfl; refine blk_put (cs := #[.slice Ao34 t560.length co34, .int .i64 0, .int .i64 0]) ?_ 1 _ rfl; refine blk_put (cs := #[.slice none 0 0, .int .i64 0, .int .i64 0]) ?_ 0 _ rfl; exact BK566.out⟩
       have n5_ : Aside0 (Below w.heap.size w (((w33.setCell ⟨gb566, 0, none⟩ (.slice Ao34 t560.length co34)).setCell ⟨gb566, 1, none⟩ (.int .i64 t563)).setCell ⟨gb566, 2, none⟩ (.int .i64 t564))) := ⟨by repeat (first | (with_reducible first | exact HB.out | apply bL | apply bP | apply bD | refine bS ?_ GE549.out | refine bS ?_ GE559.out | refine bS ?_ GE566.out) | exact HB.out)⟩
       (try clear HO555)
       (try clear HO562)
       (try clear BK549)
       (try clear BK559)
       (try clear BK566)
       (try clear HB)
       generalize (((w33.setCell ⟨gb566, 0, none⟩ (.slice Ao34 t560.length co34)).setCell ⟨gb566, 1, none⟩ (.int .i64 t563)).setCell ⟨gb566, 2, none⟩ (.int .i64 t564)) = w59 at n0_ n1_ n2_ n3_ n4_ n5_ ⊢
       have HO555 := n0_; have HO562 := n1_; have BK549 := n2_; have BK559 := n3_; have BK566 := n4_; have HB := n5_; clear n0_ n1_ n2_ n3_ n4_ n5_; have n0_ := zA (Kd.V_drew HO555.out); have n1_ := zA (Kd.V_drew HO562.out); have n2_ := zA (bW BK549.out); have n3_ := zA (bW BK559.out); have n4_ := zA (bW BK566.out); have n5_ := zA (bD HB.out); clear HO555; clear HO562; clear BK549; clear BK559; clear BK566; clear HB; have HO555 := n0_; have HO562 := n1_; have BK549 := n2_; have BK559 := n3_; have BK566 := n4_; have HB := n5_; clear n0_ n1_ n2_ n3_ n4_ n5_; refine start_ (n := 46) (S := fun w' => w'.cell? ⟨gb566, 0, none⟩ = some (.slice Ao34 t560.length co34) ∧ w'.cell? ⟨gb566, 1, none⟩ = some (.int .i64 t563) ∧ w'.cell? ⟨gb566, 2, none⟩ = some (.int .i64 t564)) (ds := []) (bs 46 0) (by kernel_rfl) rfl rfl ⟨(blk_cell BK566.out 0).trans rfl, (blk_cell BK566.out 1).trans rfl, (blk_cell BK566.out 2).trans rfl⟩ (fun hHeld => ?_); refine with_tabW reelkeeperlaw13_DriveLost.tab7 reelkeeperlaw13_DriveLost.bits7 (fun HT_ HW_ => ?_)
       generalize w59.drew = w60 at HO555 HO562 BK549 BK559 BK566 HB hHeld ⊢
       refine pure_ (i := 0) (N := some 55) (v := ?_) (a' := ?_) (bs 46 1) rfl rfl (any_of HT_.out (by kernel_rfl)) (fun _ _ _ h => h) (Or.inl ⟨by rfl, ?_⟩) ?_ ?_; rotate_left
       ·intro w'
        go_simp
        with_reducible rfl
       rotate_left
       ·simp only [Act.put, sA, sB, sC, i64_w, i32_w]
        rfl
       refine pure_ (i := 1) (N := some 56) (v := ?_) (a' := ?_) (bs 46 3) rfl rfl (any_of HT_.out (by kernel_rfl)) (fun _ _ _ h => h) (Or.inl ⟨by rfl, ?_⟩) ?_ ?_; rotate_left
       ·intro w'
        go_simp
        with_reducible rfl
       rotate_left
       ·simp only [Act.put, sA, sB, sC, i64_w, i32_w]
        rfl
       refine pure_ (i := 2) (N := some 57) (v := ?_) (a' := ?_) (bs 46 7) rfl rfl (any_of HT_.out (by kernel_rfl)) (fun _ _ _ h => h) (Or.inl ⟨by rfl, ?_⟩) ?_ ?_; rotate_left
       ·intro w'
        go_simp
        with_reducible rfl
       rotate_left
       ·simp only [Act.put, sA, sB, sC, i64_w, i32_w]
        rfl
       refine take_ (i := 3) (N := some 58) (v := ?_) (a' := ?_) (bs 46 15) rfl rfl (take_ofW HT_.out HW_.out (by kernel_rfl)) (fun _ _ _ h => h) (Or.inl ⟨by rfl, ?_⟩) hHeld ?_ ?_; rotate_left
       ·rintro w' ⟨s0, s1, s2⟩
        go_simp
        with_reducible rfl
       rotate_left
       ·simp only [Act.put, sA, sB, sC, i64_w, i32_w]
        rfl
       refine one_ (i := 4) (N := some 59) (bs 46 31) rfl rfl (one_of HT_.out (by kernel_rfl)) (by decide) (fun K hK => ?_); refine goes_ Try.func27 (by kernel_rfl) rfl #[.agg #[.slice Ao34 t560.length co34, .int .i64 t563, .int .i64 t564]] (by rfl) rfl rfl (by (try simp only [List.map_toArray, List.map_cons, List.map_nil]); first | done | rfl | (simp only [List.length_drop, List.length_take]; rfl)) ?_
       with_reducible refine (drive_May.calls _ _ t560 t563 t564 false _ ?side1 ?side2 A39.out).mono ?_
       (case side1 => repeat (first | exact (Kd.V_reads' HO562.out).2.2 | (with_reducible refine Kd.C_alloc ?_ _) | (with_reducible refine Kd.C_drewN ?_ _) | (with_reducible refine Kd.C_drew ?_)))
       (case side2 => exact (Kd.V_reads' HO562.out).2.1)
       rintro e w61 ⟨rfl, hb⟩
       refine ⟨_, rfl, ?_⟩; have n0_ := zA (Kd.V_below HO555.out hb); have n1_ := zA (Kd.V_below HO562.out hb); have n2_ := zA (bK BK549.out hb); have n3_ := zA (bK BK559.out hb); have n4_ := zA (bK BK566.out hb); have n5_ := zA (below_step (by repeat (first | (with_reducible first | exact HB.out | apply bL | apply bP | apply bD | refine bS ?_ GE549.out | refine bS ?_ GE559.out | refine bS ?_ GE566.out) | exact HB.out)) hb); clear HO555; clear HO562; clear BK549; clear BK559; clear BK566; clear HB; have HO555 := n0_; have HO562 := n1_; have BK549 := n2_; have BK559 := n3_; have BK566 := n4_; have HB := n5_; clear n0_ n1_ n2_ n3_ n4_ n5_
       (try clear hb)
       (try clear hb2)
       (try clear hk)
       (try clear hi)
       refine hK.out _ _ ⟨(blk_cell BK566.out 0).trans rfl, (blk_cell BK566.out 1).trans rfl, (blk_cell BK566.out 2).trans rfl⟩ (fun hHeld => ?_); clear hK K; refine norm_ (a' := ?_) ?_ ?_; rotate_left
       ·show Act.put _ (some 59) _ = _
        simp only [Act.put, sA, sB, sC, i64_w, i32_w]
        rfl
       refine pure_ (i := 5) (N := some 60) (v := ?_) (a' := ?_) (bs 46 63) rfl rfl (any_of HT_.out (by kernel_rfl)) (fun _ _ _ h => h) (Or.inl ⟨by rfl, ?_⟩) ?_ ?_; rotate_left
       ·intro w'
        go_simp
        with_reducible rfl
       rotate_left
       ·simp only [Act.put, sA, sB, sC, i64_w, i32_w]
        rfl
       refine pure_ (i := 6) (N := some 61) (v := ?_) (a' := ?_) (bs 46 127) rfl rfl (any_of HT_.out (by kernel_rfl)) (fun _ _ _ h => h) (Or.inl ⟨by rfl, ?_⟩) ?_ ?_; rotate_left
       ·intro w'
        go_simp
        with_reducible rfl
       rotate_left
       ·simp only [Act.put, sA, sB, sC, i64_w, i32_w]
        rfl
       refine pure_ (i := 7) (N := some 62) (v := ?_) (a' := ?_) (bs 46 255) rfl rfl (any_of HT_.out (by kernel_rfl)) (fun _ _ _ h => h) (Or.inl ⟨by rfl, ?_⟩) ?_ ?_; rotate_left
       ·intro w'
        go_simp
        with_reducible rfl
       rotate_left
       ·simp only [Act.put, sA, sB, sC, i64_w, i32_w]
        rfl
       refine pure_ (i := 8) (N := some 63) (v := undef) (a' := ?_) (bs 46 511) rfl rfl (any_of HT_.out (by kernel_rfl)) (fun _ _ _ h => h) (Or.inr ⟨by rfl, rfl⟩) ?_ ?_; rotate_left
       ·simp only [Act.put, sA, sB, sC, i64_w, i32_w]
        rfl
       refine pure_ (i := 9) (N := some 64) (v := undef) (a' := ?_) (bs 46 1023) rfl rfl (any_of HT_.out (by kernel_rfl)) (fun _ _ _ h => h) (Or.inr ⟨by rfl, rfl⟩) ?_ ?_; rotate_left
       ·simp only [Act.put, sA, sB, sC, i64_w, i32_w]
        rfl
       refine pure_ (i := 10) (N := some 65) (v := undef) (a' := ?_) (bs 46 2047) rfl rfl (any_of HT_.out (by kernel_rfl)) (fun _ _ _ h => h) (Or.inr ⟨by rfl, rfl⟩) ?_ ?_; rotate_left
       ·simp only [Act.put, sA, sB, sC, i64_w, i32_w]
        rfl
       refine pure_ (i := 11) (N := some 66) (v := undef) (a' := ?_) (bs 46 4095) rfl rfl (any_of HT_.out (by kernel_rfl)) (fun _ _ _ h => h) (Or.inr ⟨by rfl, rfl⟩) ?_ ?_; rotate_left
       ·simp only [Act.put, sA, sB, sC, i64_w, i32_w]
        rfl
       refine pure_ (i := 12) (N := some 67) (v := undef) (a' := ?_) (bs 46 8191) rfl rfl (any_of HT_.out (by kernel_rfl)) (fun _ _ _ h => h) (Or.inr ⟨by rfl, rfl⟩) ?_ ?_; rotate_left
       ·simp only [Act.put, sA, sB, sC, i64_w, i32_w]
        rfl
       refine pure_ (i := 13) (N := some 68) (v := undef) (a' := ?_) (bs 46 16383) rfl rfl (any_of HT_.out (by kernel_rfl)) (fun _ _ _ h => h) (Or.inr ⟨by rfl, rfl⟩) ?_ ?_; rotate_left
       ·simp only [Act.put, sA, sB, sC, i64_w, i32_w]
        rfl
       refine pure_ (i := 14) (N := some 69) (v := undef) (a' := ?_) (bs 46 32767) rfl rfl (any_of HT_.out (by kernel_rfl)) (fun _ _ _ h => h) (Or.inr ⟨by rfl, rfl⟩) ?_ ?_; rotate_left
       ·simp only [Act.put, sA, sB, sC, i64_w, i32_w]
        rfl
       refine pure_ (i := 15) (N := some 70) (v := ?_) (a' := ?_) (bs 46 65535) rfl rfl (any_of HT_.out (by kernel_rfl)) (fun _ _ _ h => h) (Or.inl ⟨by rfl, ?_⟩) ?_ ?_; rotate_left
       ·intro w'
        go_simp
        with_reducible rfl
       rotate_left
       ·simp only [Act.put, sA, sB, sC, i64_w, i32_w]
        rfl
       refine pure_ (i := 16) (N := some 71) (v := ?_) (a' := ?_) (bs 46 131071) rfl rfl (any_of HT_.out (by kernel_rfl)) (fun _ _ _ h => h) (Or.inl ⟨by rfl, ?_⟩) ?_ ?_; rotate_left
       ·intro w'
        go_simp
        with_reducible rfl
       rotate_left
       ·simp only [Act.put, sA, sB, sC, i64_w, i32_w]
        rfl
       refine pure_ (i := 17) (N := some 72) (v := undef) (a' := ?_) (bs 46 262143) rfl rfl (any_of HT_.out (by kernel_rfl)) (fun _ _ _ h => h) (Or.inr ⟨by rfl, rfl⟩) ?_ ?_; rotate_left
       ·simp only [Act.put, sA, sB, sC, i64_w, i32_w]
        rfl
       refine pure_ (i := 18) (N := some 73) (v := undef) (a' := ?_) (bs 46 524287) rfl rfl (any_of HT_.out (by kernel_rfl)) (fun _ _ _ h => h) (Or.inr ⟨by rfl, rfl⟩) ?_ ?_; rotate_left
       ·simp only [Act.put, sA, sB, sC, i64_w, i32_w]
        rfl
       refine pure_ (i := 19) (N := some 74) (v := undef) (a' := ?_) (bs 46 1048575) rfl rfl (any_of HT_.out (by kernel_rfl)) (fun _ _ _ h => h) (Or.inr ⟨by rfl, rfl⟩) ?_ ?_; rotate_left
       ·simp only [Act.put, sA, sB, sC, i64_w, i32_w]
        rfl
       refine pure_ (i := 20) (N := some 75) (v := undef) (a' := ?_) (bs 46 2097151) rfl rfl (any_of HT_.out (by kernel_rfl)) (fun _ _ _ h => h) (Or.inr ⟨by rfl, rfl⟩) ?_ ?_; rotate_left
       ·simp only [Act.put, sA, sB, sC, i64_w, i32_w]
        rfl
       refine pure_ (i := 21) (N := some 76) (v := undef) (a' := ?_) (bs 46 4194303) rfl rfl (any_of HT_.out (by kernel_rfl)) (fun _ _ _ h => h) (Or.inr ⟨by rfl, rfl⟩) ?_ ?_; rotate_left
       ·simp only [Act.put, sA, sB, sC, i64_w, i32_w]
        rfl
       refine pure_ (i := 22) (N := some 77) (v := undef) (a' := ?_) (bs 46 8388607) rfl rfl (any_of HT_.out (by kernel_rfl)) (fun _ _ _ h => h) (Or.inr ⟨by rfl, rfl⟩) ?_ ?_; rotate_left
       ·simp only [Act.put, sA, sB, sC, i64_w, i32_w]
        rfl
       refine pure_ (i := 23) (N := some 78) (v := undef) (a' := ?_) (bs 46 16777215) rfl rfl (any_of HT_.out (by kernel_rfl)) (fun _ _ _ h => h) (Or.inr ⟨by rfl, rfl⟩) ?_ ?_; rotate_left
       ·simp only [Act.put, sA, sB, sC, i64_w, i32_w]
        rfl
       refine pure_ (i := 24) (N := some 79) (v := undef) (a' := ?_) (bs 46 33554431) rfl rfl (any_of HT_.out (by kernel_rfl)) (fun _ _ _ h => h) (Or.inr ⟨by rfl, rfl⟩) ?_ ?_; rotate_left
       ·simp only [Act.put, sA, sB, sC, i64_w, i32_w]
        rfl
       refine pure_ (i := 25) (N := some 80) (v := undef) (a' := ?_) (bs 46 67108863) rfl rfl (any_of HT_.out (by kernel_rfl)) (fun _ _ _ h => h) (Or.inr ⟨by rfl, rfl⟩) ?_ ?_; rotate_left
       ·simp only [Act.put, sA, sB, sC, i64_w, i32_w]
        rfl
       refine pure_ (i := 26) (N := some 81) (v := undef) (a' := ?_) (bs 46 134217727) rfl rfl (any_of HT_.out (by kernel_rfl)) (fun _ _ _ h => h) (Or.inr ⟨by rfl, rfl⟩) ?_ ?_; rotate_left
       ·simp only [Act.put, sA, sB, sC, i64_w, i32_w]
        rfl
       refine pure_ (i := 27) (N := some 82) (v := undef) (a' := ?_) (bs 46 268435455) rfl rfl (any_of HT_.out (by kernel_rfl)) (fun _ _ _ h => h) (Or.inr ⟨by rfl, rfl⟩) ?_ ?_; rotate_left
       ·simp only [Act.put, sA, sB, sC, i64_w, i32_w]
        rfl
       refine pure_ (i := 28) (N := some 83) (v := ?_) (a' := ?_) (bs 46 536870911) rfl rfl (any_of HT_.out (by kernel_rfl)) (fun _ _ _ h => h) (Or.inl ⟨by rfl, ?_⟩) ?_ ?_; rotate_left
       ·intro w'
        go_simp
        with_reducible rfl
       rotate_left
       ·simp only [Act.put, sA, sB, sC, i64_w, i32_w]
        rfl
       refine pure_ (i := 29) (N := some 84) (v := ?_) (a' := ?_) (bs 46 1073741823) rfl rfl (any_of HT_.out (by kernel_rfl)) (fun _ _ _ h => h) (Or.inl ⟨by rfl, ?_⟩) ?_ ?_; rotate_left
       ·intro w'
        go_simp
        with_reducible rfl
       rotate_left
       ·simp only [Act.put, sA, sB, sC, i64_w, i32_w]
        rfl
       refine pure_ (i := 30) (N := some 85) (v := undef) (a' := ?_) (bs 46 2147483647) rfl rfl (any_of HT_.out (by kernel_rfl)) (fun _ _ _ h => h) (Or.inr ⟨by rfl, rfl⟩) ?_ ?_; rotate_left
       ·simp only [Act.put, sA, sB, sC, i64_w, i32_w]
        rfl
       refine pure_ (i := 31) (N := some 86) (v := undef) (a' := ?_) (bs 46 4294967295) rfl rfl (any_of HT_.out (by kernel_rfl)) (fun _ _ _ h => h) (Or.inr ⟨by rfl, rfl⟩) ?_ ?_; rotate_left
       ·simp only [Act.put, sA, sB, sC, i64_w, i32_w]
        rfl
       refine pure_ (i := 32) (N := some 87) (v := undef) (a' := ?_) (bs 46 8589934591) rfl rfl (any_of HT_.out (by kernel_rfl)) (fun _ _ _ h => h) (Or.inr ⟨by rfl, rfl⟩) ?_ ?_; rotate_left
       ·simp only [Act.put, sA, sB, sC, i64_w, i32_w]
        rfl
       refine pure_ (i := 33) (N := some 88) (v := undef) (a' := ?_) (bs 46 17179869183) rfl rfl (any_of HT_.out (by kernel_rfl)) (fun _ _ _ h => h) (Or.inr ⟨by rfl, rfl⟩) ?_ ?_; rotate_left
       ·simp only [Act.put, sA, sB, sC, i64_w, i32_w]
        rfl
       refine pure_ (i := 34) (N := some 89) (v := undef) (a' := ?_) (bs 46 34359738367) rfl rfl (any_of HT_.out (by kernel_rfl)) (fun _ _ _ h => h) (Or.inr ⟨by rfl, rfl⟩) ?_ ?_; rotate_left
       ·simp only [Act.put, sA, sB, sC, i64_w, i32_w]
        rfl
       refine pure_ (i := 35) (N := some 90) (v := undef) (a' := ?_) (bs 46 68719476735) rfl rfl (any_of HT_.out (by kernel_rfl)) (fun _ _ _ h => h) (Or.inr ⟨by rfl, rfl⟩) ?_ ?_; rotate_left
       ·simp only [Act.put, sA, sB, sC, i64_w, i32_w]
        rfl
       refine pure_ (i := 36) (N := some 91) (v := undef) (a' := ?_) (bs 46 137438953471) rfl rfl (any_of HT_.out (by kernel_rfl)) (fun _ _ _ h => h) (Or.inr ⟨by rfl, rfl⟩) ?_ ?_; rotate_left
       ·simp only [Act.put, sA, sB, sC, i64_w, i32_w]
        rfl
       refine pure_ (i := 37) (N := some 92) (v := undef) (a' := ?_) (bs 46 274877906943) rfl rfl (any_of HT_.out (by kernel_rfl)) (fun _ _ _ h => h) (Or.inr ⟨by rfl, rfl⟩) ?_ ?_; rotate_left
       ·simp only [Act.put, sA, sB, sC, i64_w, i32_w]
        rfl
       refine pure_ (i := 38) (N := some 93) (v := ?_) (a' := ?_) (bs 46 549755813887) rfl rfl (any_of HT_.out (by kernel_rfl)) (fun _ _ _ h => h) (Or.inl ⟨by rfl, ?_⟩) ?_ ?_; rotate_left
       ·intro w'
        go_simp
        with_reducible rfl
       rotate_left
       ·simp only [Act.put, sA, sB, sC, i64_w, i32_w]
        rfl
       refine pure_ (i := 39) (N := some 94) (v := ?_) (a' := ?_) (bs 46 1099511627775) rfl rfl (any_of HT_.out (by kernel_rfl)) (fun _ _ _ h => h) (Or.inl ⟨by rfl, ?_⟩) ?_ ?_; rotate_left
       ·intro w'
        go_simp
        with_reducible rfl
       rotate_left
       ·simp only [Act.put, sA, sB, sC, i64_w, i32_w]
        rfl
       refine pure_ (i := 40) (N := some 95) (v := undef) (a' := ?_) (bs 46 2199023255551) rfl rfl (any_of HT_.out (by kernel_rfl)) (fun _ _ _ h => h) (Or.inr ⟨by rfl, rfl⟩) ?_ ?_; rotate_left
       ·simp only [Act.put, sA, sB, sC, i64_w, i32_w]
        rfl
       refine pure_ (i := 41) (N := some 96) (v := undef) (a' := ?_) (bs 46 4398046511103) rfl rfl (any_of HT_.out (by kernel_rfl)) (fun _ _ _ h => h) (Or.inr ⟨by rfl, rfl⟩) ?_ ?_; rotate_left
       ·simp only [Act.put, sA, sB, sC, i64_w, i32_w]
        rfl
       refine pure_ (i := 42) (N := some 97) (v := undef) (a' := ?_) (bs 46 8796093022207) rfl rfl (any_of HT_.out (by kernel_rfl)) (fun _ _ _ h => h) (Or.inr ⟨by rfl, rfl⟩) ?_ ?_; rotate_left
       ·simp only [Act.put, sA, sB, sC, i64_w, i32_w]
        rfl
       refine pure_ (i := 43) (N := some 98) (v := undef) (a' := ?_) (bs 46 17592186044415) rfl rfl (any_of HT_.out (by kernel_rfl)) (fun _ _ _ h => h) (Or.inr ⟨by rfl, rfl⟩) ?_ ?_; rotate_left
       ·simp only [Act.put, sA, sB, sC, i64_w, i32_w]
        rfl
       refine pure_ (i := 44) (N := some 99) (v := undef) (a' := ?_) (bs 46 35184372088831) rfl rfl (any_of HT_.out (by kernel_rfl)) (fun _ _ _ h => h) (Or.inr ⟨by rfl, rfl⟩) ?_ ?_; rotate_left
       ·simp only [Act.put, sA, sB, sC, i64_w, i32_w]
        rfl
       refine pure_ (i := 45) (N := some 100) (v := ?_) (a' := ?_) (bs 46 70368744177663) rfl rfl (any_of HT_.out (by kernel_rfl)) (fun _ _ _ h => h) (Or.inl ⟨by rfl, ?_⟩) ?_ ?_; rotate_left
       ·intro w'
        go_simp
        with_reducible rfl
       rotate_left
       ·simp only [Act.put, sA, sB, sC, i64_w, i32_w]
        rfl
       refine done_ (done_of HT_.out (by kernel_rfl)) ?_
       try go_wp2
       go_meet
       case rel => exact ⟨_, (true), (by first | rfl | (simp; done) | (simp [*]; done)), H', ⟨by have := HJ5.out; first | omega | exact Nat.le_refl _⟩, ⟨by exact HO555.out⟩, ⟨by exact HO562.out⟩, ⟨by exact BK549.out⟩, ⟨by exact BK559.out⟩, ⟨by exact BK566.out⟩, ⟨by repeat (first | (with_reducible first | exact HB.out | apply bL | apply bP | apply bD | refine bS ?_ GE549.out | refine bS ?_ GE559.out | refine bS ?_ GE566.out) | exact HB.out)⟩⟩
     ·as_aux_lemma =>
      rw [if_neg c38] at H
      have c38b0 : (t565 == 0) = false := beq_eq_false_iff_ne.mpr c38; have c38b1 : (t565 != 0) = true := bne_iff_ne.mpr c38
      (first | rw [c38b0] | (simp only [i64_w, i32_w]; rw [c38b0]) | skip)
      have H' := zA H; clear H
      try go_wp2
      have n0_ : Aside0 (Kd.V k41 41 (((w33.setCell ⟨gb566, 0, none⟩ (.slice Ao34 t560.length co34)).setCell ⟨gb566, 1, none⟩ (.int .i64 t563)).setCell ⟨gb566, 2, none⟩ (.int .i64 t564)) w.heap.size (fun k_ => k_ ≠ gb549 ∧ k_ ≠ gb559 ∧ k_ ≠ gb566) (.slice Ao28 t553.length co28) t553) := ⟨by exact Kd.V_mono (Kd.V_far (p := ⟨gb566, 2, none⟩) (Kd.V_far (p := ⟨gb566, 1, none⟩) (Kd.V_far (p := ⟨gb566, 0, none⟩) (Kd.V_mono HO555.out (fun k_ hk => (⟨hk, hk.2⟩ : _ ∧ k_ ≠ gb566))) (fun _ hk => hk.2) (.slice Ao34 t560.length co34)) (fun _ hk => hk.2) (.int .i64 t563)) (fun _ hk => hk.2) (.int .i64 t564)) (fun _ hk => ⟨hk.1.1.1, ⟨hk.1.1.2, hk.1.2⟩⟩)⟩; have n1_ : Aside0 (Kd.V k41 41 (((w33.setCell ⟨gb566, 0, none⟩ (.slice Ao34 t560.length co34)).setCell ⟨gb566, 1, none⟩ (.int .i64 t563)).setCell ⟨gb566, 2, none⟩ (.int .i64 t564)) w.heap.size (fun k_ => k_ ≠ gb549 ∧ k_ ≠ gb559 ∧ k_ ≠ gb566) (.slice Ao34 t560.length co34) t560) := ⟨by exact Kd.V_mono (Kd.V_far (p := ⟨gb566, 2, none⟩) (Kd.V_far (p := ⟨gb566, 1, none⟩) (Kd.V_far (p := ⟨gb566, 0, none⟩) (Kd.V_mono HO562.out (fun k_ hk => (⟨hk, hk.2⟩ : _ ∧ k_ ≠ gb566))) (fun _ hk => hk.2) (.slice Ao34 t560.length co34)) (fun _ hk => hk.2) (.int .i64 t563)) (fun _ hk => hk.2) (.int .i64 t564)) (fun _ hk => ⟨hk.1.1.1, ⟨hk.1.1.2, hk.1.2⟩⟩)⟩; have n2_ : Aside0 ((((w33.setCell ⟨gb566, 0, none⟩ (.slice Ao34 t560.length co34)).setCell ⟨gb566, 1, none⟩ (.int .i64 t563)).setCell ⟨gb566, 2, none⟩ (.int .i64 t564)).heap[gb549]? = some (.cells #[.slice A0_0 l0_0.length c0_0, .int .i64 a0_1, .int .i64 a0_2] 24 (0, 0))) := ⟨by refine blk_far ?_ NB549_566.out _; refine blk_far ?_ NB549_566.out _; refine blk_far ?_ NB549_566.out _; exact BK549.out⟩; have n3_ : Aside0 ((((w33.setCell ⟨gb566, 0, none⟩ (.slice Ao34 t560.length co34)).setCell ⟨gb566, 1, none⟩ (.int .i64 t563)).setCell ⟨gb566, 2, none⟩ (.int .i64 t564)).heap[gb559]? = some (.cells #[.slice Ao28 t553.length co28, .int .i64 t556, .int .i64 t557] 24 (0, 0))) := ⟨by refine blk_far ?_ NB559_566.out _; refine blk_far ?_ NB559_566.out _; refine blk_far ?_ NB559_566.out _; exact BK559.out⟩; have n4_ : Aside0 ((((w33.setCell ⟨gb566, 0, none⟩ (.slice Ao34 t560.length co34)).setCell ⟨gb566, 1, none⟩ (.int .i64 t563)).setCell ⟨gb566, 2, none⟩ (.int .i64 t564)).heap[gb566]? = some (.cells #[.slice Ao34 t560.length co34, .int .i64 t563, .int .i64 t564] 24 (0, 0))) := ⟨by refine blk_put (cs := #[.slice Ao34 t560.length co34, .int .i64 t563, .int .i64 0]) ?_ 2 _ rfl; refine blk_put (cs := #[.slice Ao34 t560.length co34, .int .i64 0, .int .i64 0]) ?_ 1 _ rfl; refine blk_put (cs := #[.slice none 0 0, .int .i64 0, .int .i64 0]) ?_ 0 _ rfl; exact BK566.out⟩
      have n5_ : Aside0 (Below w.heap.size w (((w33.setCell ⟨gb566, 0, none⟩ (.slice Ao34 t560.length co34)).setCell ⟨gb566, 1, none⟩ (.int .i64 t563)).setCell ⟨gb566, 2, none⟩ (.int .i64 t564))) := ⟨by repeat (first | (with_reducible first | exact HB.out | apply bL | apply bP | apply bD | refine bS ?_ GE549.out | refine bS ?_ GE559.out | refine bS ?_ GE566.out) | exact HB.out)⟩
      (try clear HO555)
      (try clear HO562)
      (try clear BK549)
      (try clear BK559)
      (try clear BK566)
      (try clear HB)
      generalize (((w33.setCell ⟨gb566, 0, none⟩ (.slice Ao34 t560.length co34)).setCell ⟨gb566, 1, none⟩ (.int .i64 t563)).setCell ⟨gb566, 2, none⟩ (.int .i64 t564)) = w62 at n0_ n1_ n2_ n3_ n4_ n5_ ⊢
      have HO555 := n0_; have HO562 := n1_; have BK549 := n2_; have BK559 := n3_; have BK566 := n4_; have HB := n5_; clear n0_ n1_ n2_ n3_ n4_ n5_; have n0_ := zA (Kd.V_drew HO555.out); have n1_ := zA (Kd.V_drew HO562.out); have n2_ := zA (bW BK549.out); have n3_ := zA (bW BK559.out); have n4_ := zA (bW BK566.out); have n5_ := zA (bD HB.out); clear HO555; clear HO562; clear BK549; clear BK559; clear BK566; clear HB; have HO555 := n0_; have HO562 := n1_; have BK549 := n2_; have BK559 := n3_; have BK566 := n4_; have HB := n5_; clear n0_ n1_ n2_ n3_ n4_ n5_; refine start_ (n := 46) (S := fun w' => True) (ds := []) (bs 46 0) (by kernel_rfl) rfl rfl trivial (fun hHeld => ?_); refine with_tabW reelkeeperlaw13_DriveLost.tab7 reelkeeperlaw13_DriveLost.bits7 (fun HT_ HW_ => ?_)
      generalize w62.drew = w63 at HO555 HO562 BK549 BK559 BK566 HB hHeld ⊢
      refine pure_ (i := 0) (N := some 55) (v := ?_) (a' := ?_) (bs 46 1) rfl rfl (any_of HT_.out (by kernel_rfl)) (fun _ _ _ h => h) (Or.inl ⟨by rfl, ?_⟩) ?_ ?_; rotate_left
      ·intro w'
       go_simp
       with_reducible rfl
      rotate_left
      ·simp only [Act.put, sA, sB, sC, i64_w, i32_w]
       rfl
      refine pure_ (i := 1) (N := some 56) (v := ?_) (a' := ?_) (bs 46 3) rfl rfl (any_of HT_.out (by kernel_rfl)) (fun _ _ _ h => h) (Or.inl ⟨by rfl, ?_⟩) ?_ ?_; rotate_left
      ·intro w'
       go_simp
       with_reducible rfl
      rotate_left
      ·simp only [Act.put, sA, sB, sC, i64_w, i32_w]
       rfl
      refine pure_ (i := 2) (N := some 57) (v := ?_) (a' := ?_) (bs 46 7) rfl rfl (any_of HT_.out (by kernel_rfl)) (fun _ _ _ h => h) (Or.inl ⟨by rfl, ?_⟩) ?_ ?_; rotate_left
      ·intro w'
       go_simp
       with_reducible rfl
      rotate_left
      ·simp only [Act.put, sA, sB, sC, i64_w, i32_w]
       rfl
      refine pure_ (i := 3) (N := some 58) (v := undef) (a' := ?_) (bs 46 15) rfl rfl (any_of HT_.out (by kernel_rfl)) (fun _ _ _ h => h) (Or.inr ⟨by rfl, rfl⟩) ?_ ?_; rotate_left
      ·simp only [Act.put, sA, sB, sC, i64_w, i32_w]
       rfl
      refine pure_ (i := 4) (N := some 59) (v := undef) (a' := ?_) (bs 46 31) rfl rfl (any_of HT_.out (by kernel_rfl)) (fun _ _ _ h => h) (Or.inr ⟨by rfl, rfl⟩) ?_ ?_; rotate_left
      ·simp only [Act.put, sA, sB, sC, i64_w, i32_w]
       rfl
      refine pure_ (i := 5) (N := some 60) (v := undef) (a' := ?_) (bs 46 63) rfl rfl (any_of HT_.out (by kernel_rfl)) (fun _ _ _ h => h) (Or.inr ⟨by rfl, rfl⟩) ?_ ?_; rotate_left
      ·simp only [Act.put, sA, sB, sC, i64_w, i32_w]
       rfl
      refine pure_ (i := 6) (N := some 61) (v := ?_) (a' := ?_) (bs 46 127) rfl rfl (any_of HT_.out (by kernel_rfl)) (fun _ _ _ h => h) (Or.inl ⟨by rfl, ?_⟩) ?_ ?_; rotate_left
      ·intro w'
       go_simp
       with_reducible rfl
      rotate_left
      ·simp only [Act.put, sA, sB, sC, i64_w, i32_w]
       rfl
      refine pure_ (i := 7) (N := some 62) (v := ?_) (a' := ?_) (bs 46 255) rfl rfl (any_of HT_.out (by kernel_rfl)) (fun _ _ _ h => h) (Or.inl ⟨by rfl, ?_⟩) ?_ ?_; rotate_left
      ·intro w'
       go_simp
       with_reducible rfl
      rotate_left
      ·simp only [Act.put, sA, sB, sC, i64_w, i32_w]
       rfl
      refine pure_ (i := 8) (N := some 63) (v := undef) (a' := ?_) (bs 46 511) rfl rfl (any_of HT_.out (by kernel_rfl)) (fun _ _ _ h => h) (Or.inr ⟨by rfl, rfl⟩) ?_ ?_; rotate_left
      ·simp only [Act.put, sA, sB, sC, i64_w, i32_w]
       rfl
      refine pure_ (i := 9) (N := some 64) (v := undef) (a' := ?_) (bs 46 1023) rfl rfl (any_of HT_.out (by kernel_rfl)) (fun _ _ _ h => h) (Or.inr ⟨by rfl, rfl⟩) ?_ ?_; rotate_left
      ·simp only [Act.put, sA, sB, sC, i64_w, i32_w]
       rfl
      refine pure_ (i := 10) (N := some 65) (v := undef) (a' := ?_) (bs 46 2047) rfl rfl (any_of HT_.out (by kernel_rfl)) (fun _ _ _ h => h) (Or.inr ⟨by rfl, rfl⟩) ?_ ?_; rotate_left
      ·simp only [Act.put, sA, sB, sC, i64_w, i32_w]
       rfl
      refine pure_ (i := 11) (N := some 66) (v := undef) (a' := ?_) (bs 46 4095) rfl rfl (any_of HT_.out (by kernel_rfl)) (fun _ _ _ h => h) (Or.inr ⟨by rfl, rfl⟩) ?_ ?_; rotate_left
      ·simp only [Act.put, sA, sB, sC, i64_w, i32_w]
       rfl
      refine pure_ (i := 12) (N := some 67) (v := undef) (a' := ?_) (bs 46 8191) rfl rfl (any_of HT_.out (by kernel_rfl)) (fun _ _ _ h => h) (Or.inr ⟨by rfl, rfl⟩) ?_ ?_; rotate_left
      ·simp only [Act.put, sA, sB, sC, i64_w, i32_w]
       rfl
      refine pure_ (i := 13) (N := some 68) (v := undef) (a' := ?_) (bs 46 16383) rfl rfl (any_of HT_.out (by kernel_rfl)) (fun _ _ _ h => h) (Or.inr ⟨by rfl, rfl⟩) ?_ ?_; rotate_left
      ·simp only [Act.put, sA, sB, sC, i64_w, i32_w]
       rfl
      refine pure_ (i := 14) (N := some 69) (v := undef) (a' := ?_) (bs 46 32767) rfl rfl (any_of HT_.out (by kernel_rfl)) (fun _ _ _ h => h) (Or.inr ⟨by rfl, rfl⟩) ?_ ?_; rotate_left
      ·simp only [Act.put, sA, sB, sC, i64_w, i32_w]
       rfl
      refine pure_ (i := 15) (N := some 70) (v := ?_) (a' := ?_) (bs 46 65535) rfl rfl (any_of HT_.out (by kernel_rfl)) (fun _ _ _ h => h) (Or.inl ⟨by rfl, ?_⟩) ?_ ?_; rotate_left
      ·intro w'
       go_simp
       with_reducible rfl
      rotate_left
      ·simp only [Act.put, sA, sB, sC, i64_w, i32_w]
       rfl
      refine pure_ (i := 16) (N := some 71) (v := ?_) (a' := ?_) (bs 46 131071) rfl rfl (any_of HT_.out (by kernel_rfl)) (fun _ _ _ h => h) (Or.inl ⟨by rfl, ?_⟩) ?_ ?_; rotate_left
      ·intro w'
       go_simp
       with_reducible rfl
      rotate_left
      ·simp only [Act.put, sA, sB, sC, i64_w, i32_w]
       rfl
      refine pure_ (i := 17) (N := some 72) (v := undef) (a' := ?_) (bs 46 262143) rfl rfl (any_of HT_.out (by kernel_rfl)) (fun _ _ _ h => h) (Or.inr ⟨by rfl, rfl⟩) ?_ ?_; rotate_left
      ·simp only [Act.put, sA, sB, sC, i64_w, i32_w]
       rfl
      refine pure_ (i := 18) (N := some 73) (v := undef) (a' := ?_) (bs 46 524287) rfl rfl (any_of HT_.out (by kernel_rfl)) (fun _ _ _ h => h) (Or.inr ⟨by rfl, rfl⟩) ?_ ?_; rotate_left
      ·simp only [Act.put, sA, sB, sC, i64_w, i32_w]
       rfl
      refine pure_ (i := 19) (N := some 74) (v := undef) (a' := ?_) (bs 46 1048575) rfl rfl (any_of HT_.out (by kernel_rfl)) (fun _ _ _ h => h) (Or.inr ⟨by rfl, rfl⟩) ?_ ?_; rotate_left
      ·simp only [Act.put, sA, sB, sC, i64_w, i32_w]
       rfl
      refine pure_ (i := 20) (N := some 75) (v := undef) (a' := ?_) (bs 46 2097151) rfl rfl (any_of HT_.out (by kernel_rfl)) (fun _ _ _ h => h) (Or.inr ⟨by rfl, rfl⟩) ?_ ?_; rotate_left
      ·simp only [Act.put, sA, sB, sC, i64_w, i32_w]
       rfl
      refine pure_ (i := 21) (N := some 76) (v := undef) (a' := ?_) (bs 46 4194303) rfl rfl (any_of HT_.out (by kernel_rfl)) (fun _ _ _ h => h) (Or.inr ⟨by rfl, rfl⟩) ?_ ?_; rotate_left
      ·simp only [Act.put, sA, sB, sC, i64_w, i32_w]
       rfl
      refine pure_ (i := 22) (N := some 77) (v := undef) (a' := ?_) (bs 46 8388607) rfl rfl (any_of HT_.out (by kernel_rfl)) (fun _ _ _ h => h) (Or.inr ⟨by rfl, rfl⟩) ?_ ?_; rotate_left
      ·simp only [Act.put, sA, sB, sC, i64_w, i32_w]
       rfl
      refine pure_ (i := 23) (N := some 78) (v := undef) (a' := ?_) (bs 46 16777215) rfl rfl (any_of HT_.out (by kernel_rfl)) (fun _ _ _ h => h) (Or.inr ⟨by rfl, rfl⟩) ?_ ?_; rotate_left
      ·simp only [Act.put, sA, sB, sC, i64_w, i32_w]
       rfl
      refine pure_ (i := 24) (N := some 79) (v := undef) (a' := ?_) (bs 46 33554431) rfl rfl (any_of HT_.out (by kernel_rfl)) (fun _ _ _ h => h) (Or.inr ⟨by rfl, rfl⟩) ?_ ?_; rotate_left
      ·simp only [Act.put, sA, sB, sC, i64_w, i32_w]
       rfl
      refine pure_ (i := 25) (N := some 80) (v := undef) (a' := ?_) (bs 46 67108863) rfl rfl (any_of HT_.out (by kernel_rfl)) (fun _ _ _ h => h) (Or.inr ⟨by rfl, rfl⟩) ?_ ?_; rotate_left
      ·simp only [Act.put, sA, sB, sC, i64_w, i32_w]
       rfl
      refine pure_ (i := 26) (N := some 81) (v := undef) (a' := ?_) (bs 46 134217727) rfl rfl (any_of HT_.out (by kernel_rfl)) (fun _ _ _ h => h) (Or.inr ⟨by rfl, rfl⟩) ?_ ?_; rotate_left
      ·simp only [Act.put, sA, sB, sC, i64_w, i32_w]
       rfl
      refine pure_ (i := 27) (N := some 82) (v := undef) (a' := ?_) (bs 46 268435455) rfl rfl (any_of HT_.out (by kernel_rfl)) (fun _ _ _ h => h) (Or.inr ⟨by rfl, rfl⟩) ?_ ?_; rotate_left
      ·simp only [Act.put, sA, sB, sC, i64_w, i32_w]
       rfl
      refine pure_ (i := 28) (N := some 83) (v := ?_) (a' := ?_) (bs 46 536870911) rfl rfl (any_of HT_.out (by kernel_rfl)) (fun _ _ _ h => h) (Or.inl ⟨by rfl, ?_⟩) ?_ ?_; rotate_left
      ·intro w'
       go_simp
       with_reducible rfl
      rotate_left
      ·simp only [Act.put, sA, sB, sC, i64_w, i32_w]
       rfl
      refine pure_ (i := 29) (N := some 84) (v := ?_) (a' := ?_) (bs 46 1073741823) rfl rfl (any_of HT_.out (by kernel_rfl)) (fun _ _ _ h => h) (Or.inl ⟨by rfl, ?_⟩) ?_ ?_; rotate_left
      ·intro w'
       go_simp
       with_reducible rfl
      rotate_left
      ·simp only [Act.put, sA, sB, sC, i64_w, i32_w]
       rfl
      refine pure_ (i := 30) (N := some 85) (v := undef) (a' := ?_) (bs 46 2147483647) rfl rfl (any_of HT_.out (by kernel_rfl)) (fun _ _ _ h => h) (Or.inr ⟨by rfl, rfl⟩) ?_ ?_; rotate_left
      ·simp only [Act.put, sA, sB, sC, i64_w, i32_w]
       rfl
      refine pure_ (i := 31) (N := some 86) (v := undef) (a' := ?_) (bs 46 4294967295) rfl rfl (any_of HT_.out (by kernel_rfl)) (fun _ _ _ h => h) (Or.inr ⟨by rfl, rfl⟩) ?_ ?_; rotate_left
      ·simp only [Act.put, sA, sB, sC, i64_w, i32_w]
       rfl
      refine pure_ (i := 32) (N := some 87) (v := undef) (a' := ?_) (bs 46 8589934591) rfl rfl (any_of HT_.out (by kernel_rfl)) (fun _ _ _ h => h) (Or.inr ⟨by rfl, rfl⟩) ?_ ?_; rotate_left
      ·simp only [Act.put, sA, sB, sC, i64_w, i32_w]
       rfl
      refine pure_ (i := 33) (N := some 88) (v := undef) (a' := ?_) (bs 46 17179869183) rfl rfl (any_of HT_.out (by kernel_rfl)) (fun _ _ _ h => h) (Or.inr ⟨by rfl, rfl⟩) ?_ ?_; rotate_left
      ·simp only [Act.put, sA, sB, sC, i64_w, i32_w]
       rfl
      refine pure_ (i := 34) (N := some 89) (v := undef) (a' := ?_) (bs 46 34359738367) rfl rfl (any_of HT_.out (by kernel_rfl)) (fun _ _ _ h => h) (Or.inr ⟨by rfl, rfl⟩) ?_ ?_; rotate_left
      ·simp only [Act.put, sA, sB, sC, i64_w, i32_w]
       rfl
      refine pure_ (i := 35) (N := some 90) (v := undef) (a' := ?_) (bs 46 68719476735) rfl rfl (any_of HT_.out (by kernel_rfl)) (fun _ _ _ h => h) (Or.inr ⟨by rfl, rfl⟩) ?_ ?_; rotate_left
      ·simp only [Act.put, sA, sB, sC, i64_w, i32_w]
       rfl
      refine pure_ (i := 36) (N := some 91) (v := undef) (a' := ?_) (bs 46 137438953471) rfl rfl (any_of HT_.out (by kernel_rfl)) (fun _ _ _ h => h) (Or.inr ⟨by rfl, rfl⟩) ?_ ?_; rotate_left
      ·simp only [Act.put, sA, sB, sC, i64_w, i32_w]
       rfl
      refine pure_ (i := 37) (N := some 92) (v := undef) (a' := ?_) (bs 46 274877906943) rfl rfl (any_of HT_.out (by kernel_rfl)) (fun _ _ _ h => h) (Or.inr ⟨by rfl, rfl⟩) ?_ ?_; rotate_left
      ·simp only [Act.put, sA, sB, sC, i64_w, i32_w]
       rfl
      refine pure_ (i := 38) (N := some 93) (v := ?_) (a' := ?_) (bs 46 549755813887) rfl rfl (any_of HT_.out (by kernel_rfl)) (fun _ _ _ h => h) (Or.inl ⟨by rfl, ?_⟩) ?_ ?_; rotate_left
      ·intro w'
       go_simp
       with_reducible rfl
      rotate_left
      ·simp only [Act.put, sA, sB, sC, i64_w, i32_w]
       rfl
      refine pure_ (i := 39) (N := some 94) (v := ?_) (a' := ?_) (bs 46 1099511627775) rfl rfl (any_of HT_.out (by kernel_rfl)) (fun _ _ _ h => h) (Or.inl ⟨by rfl, ?_⟩) ?_ ?_; rotate_left
      ·intro w'
       go_simp
       with_reducible rfl
      rotate_left
      ·simp only [Act.put, sA, sB, sC, i64_w, i32_w]
       rfl
      refine pure_ (i := 40) (N := some 95) (v := undef) (a' := ?_) (bs 46 2199023255551) rfl rfl (any_of HT_.out (by kernel_rfl)) (fun _ _ _ h => h) (Or.inr ⟨by rfl, rfl⟩) ?_ ?_; rotate_left
      ·simp only [Act.put, sA, sB, sC, i64_w, i32_w]
       rfl
      refine pure_ (i := 41) (N := some 96) (v := undef) (a' := ?_) (bs 46 4398046511103) rfl rfl (any_of HT_.out (by kernel_rfl)) (fun _ _ _ h => h) (Or.inr ⟨by rfl, rfl⟩) ?_ ?_; rotate_left
      ·simp only [Act.put, sA, sB, sC, i64_w, i32_w]
       rfl
      refine pure_ (i := 42) (N := some 97) (v := undef) (a' := ?_) (bs 46 8796093022207) rfl rfl (any_of HT_.out (by kernel_rfl)) (fun _ _ _ h => h) (Or.inr ⟨by rfl, rfl⟩) ?_ ?_; rotate_left
      ·simp only [Act.put, sA, sB, sC, i64_w, i32_w]
       rfl
      refine pure_ (i := 43) (N := some 98) (v := undef) (a' := ?_) (bs 46 17592186044415) rfl rfl (any_of HT_.out (by kernel_rfl)) (fun _ _ _ h => h) (Or.inr ⟨by rfl, rfl⟩) ?_ ?_; rotate_left
      ·simp only [Act.put, sA, sB, sC, i64_w, i32_w]
       rfl
      refine pure_ (i := 44) (N := some 99) (v := undef) (a' := ?_) (bs 46 35184372088831) rfl rfl (any_of HT_.out (by kernel_rfl)) (fun _ _ _ h => h) (Or.inr ⟨by rfl, rfl⟩) ?_ ?_; rotate_left
      ·simp only [Act.put, sA, sB, sC, i64_w, i32_w]
       rfl
      refine pure_ (i := 45) (N := some 100) (v := ?_) (a' := ?_) (bs 46 70368744177663) rfl rfl (any_of HT_.out (by kernel_rfl)) (fun _ _ _ h => h) (Or.inl ⟨by rfl, ?_⟩) ?_ ?_; rotate_left
      ·intro w'
       go_simp
       with_reducible rfl
      rotate_left
      ·simp only [Act.put, sA, sB, sC, i64_w, i32_w]
       rfl
      refine done_ (done_of HT_.out (by kernel_rfl)) ?_
      try go_wp2
      go_meet
      case rel => exact ⟨_, (true), (by first | rfl | (simp; done) | (simp [*]; done)), H', ⟨by have := HJ5.out; first | omega | exact Nat.le_refl _⟩, ⟨by exact HO555.out⟩, ⟨by exact HO562.out⟩, ⟨by exact BK549.out⟩, ⟨by exact BK559.out⟩, ⟨by exact BK566.out⟩, ⟨by repeat (first | (with_reducible first | exact HB.out | apply bL | apply bP | apply bD | refine bS ?_ GE549.out | refine bS ?_ GE559.out | refine bS ?_ GE566.out) | exact HB.out)⟩⟩
    case rest =>
     clear HC24
     try clear c2
     try clear p2
     try clear c3
     try clear c27
     try clear c38
     try clear c38b0
     try clear c38b1
     obtain ⟨kq, x100_23, rfl, HA, HJ23, HO_560000, HO_567000, BK549, BK559, BK566, HB⟩ := hcut
     cases kq with
     | zero => exact absurd HA.out (by simp [reelkeeperlaw13_DriveLost.j1])
     | succ kj23 =>
      have H := HA.out; clear HA
      simp only [reelkeeperlaw13_DriveLost.j1] at H
      by_cases c64 : x100_23 = true
      ·subst c64
       have H1 : (none) = some r := by rw [if_pos rfl] at H; exact H
       clear H; have H := H1; clear H1; exact absurd H (by simp)
      ·replace c64 := Bool.eq_false_iff.mpr c64
       subst c64
       have H1 : (if t558 = 0 then (if a2 < 0 then (reelkeeperlaw13_DriveLost.j2 kj23 a2 t558 true l0_0 a0_1 a0_2 t553 t556 t557 t560 t563 t564) else (reelkeeperlaw13_DriveLost.j2 kj23 a2 t558 (decide (a2 ≥ a0_2)) l0_0 a0_1 a0_2 t553 t556 t557 t560 t563 t564)) else (reelkeeperlaw13_DriveLost.j2 kj23 a2 t558 true l0_0 a0_1 a0_2 t553 t556 t557 t560 t563 t564)) = some r := by rw [if_neg (show ¬ (false = true) by decide)] at H; exact H
       clear H; have H := H1; clear H1; have HC65 := zA H; clear H
       go_upto_region 9 with (fail)
       go_cut [112] (fun v112 wc => ∃ (kq : Nat) (x112_64 : Bool), v112 = .bool x112_64 ∧ Aside0 (reelkeeperlaw13_DriveLost.j2 kq a2 t558 x112_64 l0_0 a0_1 a0_2 t553 t556 t557 t560 t563 t564 = some r) ∧ Aside0 (kq ≤ kj23) ∧ Aside0 (Kd.V k41 41 wc w.heap.size (fun k_ => k_ ≠ gb549 ∧ k_ ≠ gb559 ∧ k_ ≠ gb566) (.slice Ao28 t553.length co28) t553) ∧ Aside0 (Kd.V k41 41 wc w.heap.size (fun k_ => k_ ≠ gb549 ∧ k_ ≠ gb559 ∧ k_ ≠ gb566) (.slice Ao34 t560.length co34) t560) ∧ Aside0 (wc.heap[gb549]? = some (.cells #[(.slice A0_0 l0_0.length c0_0), .int .i64 a0_1, .int .i64 a0_2] 24 (0, 0))) ∧ Aside0 (wc.heap[gb559]? = some (.cells #[(.slice Ao28 t553.length co28), .int .i64 t556, .int .i64 t557] 24 (0, 0))) ∧ Aside0 (wc.heap[gb566]? = some (.cells #[(.slice Ao34 t560.length co34), .int .i64 t563, .int .i64 t564] 24 (0, 0))) ∧ Aside0 (Below w.heap.size w wc))
       case first =>
        have H := HC65.out; clear HC65
        by_cases c66 : t558 = 0
        ·rw [if_pos c66] at H
         have c66b0 : (t558 == 0) = true := beq_iff_eq.mpr c66; have c66b1 : (t558 != 0) = false := bne_eq_false_iff_eq.mpr c66; clear c66
         (first | rw [c66b0] | (simp only [i64_w, i32_w]; rw [c66b0]) | skip)
         by_cases c67 : a2 < 0
         ·rw [if_pos c67] at H
          have c67b0 : decide (a2 < 0) = true := decide_eq_true c67; clear c67; have H' := zA H; clear H
          go_wp2
          go_meet
          case rel => exact ⟨_, (true), (by first | rfl | (simp; done) | (simp [*]; done)), H', ⟨by have := HJ5.out; have := HJ23.out; first | omega | exact Nat.le_refl _⟩, ⟨by exact HO_560000.out⟩, ⟨by exact HO_567000.out⟩, ⟨by exact BK549.out⟩, ⟨by exact BK559.out⟩, ⟨by exact BK566.out⟩, ⟨by repeat (first | (with_reducible first | exact HB.out | apply bL | apply bP | apply bD | refine bS ?_ GE549.out | refine bS ?_ GE559.out | refine bS ?_ GE566.out) | exact HB.out)⟩⟩
         ·rw [if_neg c67] at H
          have c67b0 : decide (a2 < 0) = false := decide_eq_false c67; clear c67; have H' := zA H; clear H; have hnb68 := NB549_559.out; have hnc68 := NB559_549.out; have hnb69 := NB549_566.out; have hnc69 := NB566_549.out; have hcz70_0 : wc.cell? ⟨gb549, 0, none⟩ = some (.slice A0_0 l0_0.length c0_0) := (blk_cell BK549.out 0).trans rfl; have hcz70_1 : wc.cell? ⟨gb549, 1, none⟩ = some (.int .i64 a0_1) := (blk_cell BK549.out 1).trans rfl; have hcz70_2 : wc.cell? ⟨gb549, 2, none⟩ = some (.int .i64 a0_2) := (blk_cell BK549.out 2).trans rfl; have hfz70_0 := blk_frozen BK549.out 0; have hfz70_1 := blk_frozen BK549.out 1; have hfz70_2 := blk_frozen BK549.out 2
          go_wp2
          go_meet
          case rel => exact ⟨_, (decide (a2 ≥ a0_2)), (by first | rfl | (simp; done) | (simp [*]; done)), H', ⟨by have := HJ5.out; have := HJ23.out; first | omega | exact Nat.le_refl _⟩, ⟨by exact HO_560000.out⟩, ⟨by exact HO_567000.out⟩, ⟨by exact BK549.out⟩, ⟨by exact BK559.out⟩, ⟨by exact BK566.out⟩, ⟨by repeat (first | (with_reducible first | exact HB.out | apply bL | apply bP | apply bD | refine bS ?_ GE549.out | refine bS ?_ GE559.out | refine bS ?_ GE566.out) | exact HB.out)⟩⟩
        ·rw [if_neg c66] at H
         have c66b0 : (t558 == 0) = false := beq_eq_false_iff_ne.mpr c66; have c66b1 : (t558 != 0) = true := bne_iff_ne.mpr c66
         (first | rw [c66b0] | (simp only [i64_w, i32_w]; rw [c66b0]) | skip)
         have H' := zA H; clear H
         go_wp2
         go_meet
         case rel => exact ⟨_, (true), (by first | rfl | (simp; done) | (simp [*]; done)), H', ⟨by have := HJ5.out; have := HJ23.out; first | omega | exact Nat.le_refl _⟩, ⟨by exact HO_560000.out⟩, ⟨by exact HO_567000.out⟩, ⟨by exact BK549.out⟩, ⟨by exact BK559.out⟩, ⟨by exact BK566.out⟩, ⟨by repeat (first | (with_reducible first | exact HB.out | apply bL | apply bP | apply bD | refine bS ?_ GE549.out | refine bS ?_ GE559.out | refine bS ?_ GE566.out) | exact HB.out)⟩⟩
       case rest =>
        clear HC65
        try clear c2
        try clear p2
        try clear c3
        try clear c6
        try clear c27
        try clear c38
        try clear c38b0
        try clear c38b1
        try clear c64
        try clear c66
        try clear c66b0
        try clear c66b1
        try clear c67
        try clear c67b0
        try clear c68
        try clear c69
        try clear hcz70_0
        try clear hcz70_1
        try clear hcz70_2
        try clear hfz70_0
        try clear hfz70_1
        try clear hfz70_2
        try clear p2
        obtain ⟨kq, x112_64, rfl, HA, HJ64, HO_560000, HO_567000, BK549, BK559, BK566, HB⟩ := hcut
        cases kq with
        | zero => exact absurd HA.out (by simp [reelkeeperlaw13_DriveLost.j2])
        | succ kj64 =>
         have H := HA.out; clear HA
         simp only [reelkeeperlaw13_DriveLost.j2] at H
         by_cases c71 : x112_64 = true
         ·subst c71
          have H1 : (if t558 = 0 then (if (t553.length : Int) = (l0_0.length : Int) then (if 0 ≤ a0_1 then (if a0_1 < (t553.length : Int) then (some ((((rd_T41 t553 a0_1).f1).length : Int) == (wrap64 (a0_2 + 1)))) else (none)) else (none)) else (none)) else (some true)) = some r := by rw [if_pos rfl] at H; exact H
          clear H; have H := H1; clear H1
          by_cases c72 : t558 = 0
          ·as_aux_lemma =>
           rw [if_pos c72] at H
           have c72b0 : (t558 == 0) = true := beq_iff_eq.mpr c72; have c72b1 : (t558 != 0) = false := bne_eq_false_iff_eq.mpr c72; clear c72
           by_cases c73 : (t553.length : Int) = (l0_0.length : Int)
           ·as_aux_lemma =>
            rw [if_pos c73] at H
            have c73b0 : ((t553.length : Int) == (l0_0.length : Int)) = true := beq_iff_eq.mpr c73; have c73b1 : ((t553.length : Int) != (l0_0.length : Int)) = false := bne_eq_false_iff_eq.mpr c73
            have c73b2 : (t553.length == l0_0.length) = true := by first | simpa using c73 | (simp at c73 ⊢; omega)
            clear c73
            by_cases c74 : 0 ≤ a0_1
            ·as_aux_lemma =>
             rw [if_pos c74] at H
             have c74b0 : decide (0 ≤ a0_1) = true := decide_eq_true c74; clear c74
             by_cases c75 : a0_1 < (t553.length : Int)
             ·as_aux_lemma =>
              rw [if_pos c75] at H
              have c75b0 : decide (a0_1 < (t553.length : Int)) = true := decide_eq_true c75; clear c75; obtain rfl := Option.some.inj H
              try go_wp2
              have n0_ := zA (Kd.V_drew HO_560000.out); have n1_ := zA (Kd.V_drew HO_567000.out); have n2_ := zA (bW BK549.out); have n3_ := zA (bW BK559.out); have n4_ := zA (bW BK566.out); have n5_ := zA (bD HB.out); clear HO_560000; clear HO_567000; clear BK549; clear BK559; clear BK566; clear HB; have HO_560000 := n0_; have HO_567000 := n1_; have BK549 := n2_; have BK559 := n3_; have BK566 := n4_; have HB := n5_; clear n0_ n1_ n2_ n3_ n4_ n5_; have p570 : 0 ≤ (a0_1 : Int) := of_decide_eq_true (by assumption); have q570 : a0_1 < (t553.length : Int) := of_decide_eq_true (by assumption); obtain ⟨ad570, A570_1, c570_1, e570, hx570_0, hx570_1, hx570_2, hl570_1, hi570_1⟩ := at_T41 (Kd.V_reads' HO_560000.out).2.2 a0_1 p570 q570; cases e570; obtain ⟨ce570, hce570, hMe570, hcc570⟩ := Kd.V_get HO_560000.out z41 a0_1 p570 (by first | exact q570 | exact of_decide_eq_true (by assumption) | (have e_ := (Kd.V_reads' HO_560000.out).1; omega)); obtain ⟨ua570_1, uc570_1, rfl, ul570_1, ge570_1⟩ := k41_openF hMe570; have hv570_1 := hcc570 1 _ rfl
              rw [add_field _ _ 1 (by omega)] at hv570_1
              replace hv570_1 := Option.some.inj (hv570_1.symm.trans hx570_1)
              injection hv570_1 with hva_ hvn_ hvc_
              rw [hva_] at ge570_1
              rw [hvc_] at ul570_1
              have HL570_1 := zA (show Kd.V (Kd.slice 5 (Kd.int .u8)) 25 _ w.heap.size _ _ ((rd_T41 t553 a0_1).f1) from Kd.V_mk ul570_1 ge570_1); clear hva_ hvn_ hvc_ ge570_1 ul570_1; clear hcc570 hce570; have HR570_1 := zA hi570_1; have HC570_1 := zA hl570_1; clear hi570_1 hl570_1; replace p570 := eq_true p570; replace q570 := eq_true q570; refine start_ (n := 26) (S := fun w' => w'.cell? ⟨gb559, 0, none⟩ = some (.slice (some ad570) t553.length co28) ∧ w'.cell? ⟨gb559, 1, none⟩ = some (.int .i64 t556) ∧ w'.cell? ⟨gb559, 2, none⟩ = some (.int .i64 t557) ∧ w'.cell? ⟨gb549, 0, none⟩ = some (.slice A0_0 l0_0.length c0_0) ∧ w'.cell? ⟨gb549, 1, none⟩ = some (.int .i64 a0_1) ∧ w'.cell? ⟨gb549, 2, none⟩ = some (.int .i64 a0_2) ∧ w'.cell? (ad570.add ((a0_1).toNat * 3)) = some (.int .i64 ((rd_T41 t553 a0_1).f0)) ∧ w'.cell? ⟨(ad570.add ((a0_1).toNat * 3)).block, (ad570.add ((a0_1).toNat * 3)).off + 1, none⟩ = some (.slice A570_1 ((rd_T41 t553 a0_1).f1).length c570_1) ∧ w'.cell? ⟨(ad570.add ((a0_1).toNat * 3)).block, (ad570.add ((a0_1).toNat * 3)).off + 2, none⟩ = some (.bool ((rd_T41 t553 a0_1).f2))) (ds := []) (bs 26 0) (by kernel_rfl) rfl rfl ⟨(blk_cell BK559.out 0).trans rfl, (blk_cell BK559.out 1).trans rfl, (blk_cell BK559.out 2).trans rfl, (blk_cell BK549.out 0).trans rfl, (blk_cell BK549.out 1).trans rfl, (blk_cell BK549.out 2).trans rfl, hx570_0, hx570_1, hx570_2⟩ (fun hHeld => ?_); refine with_tabW reelkeeperlaw13_DriveLost.tab10 reelkeeperlaw13_DriveLost.bits10 (fun HT_ HW_ => ?_)
              generalize wc.drew = w76 at HO_560000 HO_567000 BK549 BK559 BK566 HB HL570_1 HR570_1 hx570_0 hx570_1 hx570_2 hHeld ⊢
              refine pure_ (i := 0) (N := some 113) (v := ?_) (a' := ?_) (bs 26 1) rfl rfl (any_of HT_.out (by kernel_rfl)) (fun _ _ _ h => h) (Or.inl ⟨by rfl, ?_⟩) ?_ ?_; rotate_left
              ·intro w'
               go_simp
               with_reducible rfl
              rotate_left
              ·simp only [Act.put, sA, sB, sC, i64_w, i32_w]
               rfl
              refine pure_ (i := 1) (N := some 114) (v := ?_) (a' := ?_) (bs 26 3) rfl rfl (any_of HT_.out (by kernel_rfl)) (fun _ _ _ h => h) (Or.inl ⟨by rfl, ?_⟩) ?_ ?_; rotate_left
              ·intro w'
               go_simp
               with_reducible rfl
              rotate_left
              ·simp only [Act.put, sA, sB, sC, i64_w, i32_w]
               rfl
              refine pure_ (i := 2) (N := some 115) (v := ?_) (a' := ?_) (bs 26 7) rfl rfl (any_of HT_.out (by kernel_rfl)) (fun _ _ _ h => h) (Or.inl ⟨by rfl, ?_⟩) ?_ ?_; rotate_left
              ·intro w'
               go_simp
               with_reducible rfl
              rotate_left
              ·simp only [Act.put, sA, sB, sC, i64_w, i32_w]
               rfl
              refine pure_ (i := 3) (N := some 116) (v := ?_) (a' := ?_) (bs 26 15) rfl rfl (any_of HT_.out (by kernel_rfl)) (fun _ _ _ h => h) (Or.inl ⟨by rfl, ?_⟩) ?_ ?_; rotate_left
              ·intro w'
               go_simp
               with_reducible rfl
              rotate_left
              ·simp only [Act.put, sA, sB, sC, i64_w, i32_w]
               rfl
              refine pure_ (i := 6) (N := some 119) (v := ?_) (a' := ?_) (bs 26 79) rfl rfl (any_of HT_.out (by kernel_rfl)) (fun _ _ _ h => h) (Or.inl ⟨by rfl, ?_⟩) ?_ ?_; rotate_left
              ·intro w'
               go_simp
               with_reducible rfl
              rotate_left
              ·simp only [Act.put, sA, sB, sC, i64_w, i32_w]
               rfl
              refine take_ (i := 4) (N := some 117) (v := ?_) (a' := ?_) (bs 26 95) rfl rfl (take_ofW HT_.out HW_.out (by kernel_rfl)) (fun _ _ _ h => h) (Or.inl ⟨by rfl, ?_⟩) hHeld ?_ ?_; rotate_left
              ·rintro w' ⟨s0, s1, s2, s3, s4, s5, s6, s7, s8⟩
               go_simp
               with_reducible rfl
              rotate_left
              ·simp only [Act.put, sA, sB, sC, i64_w, i32_w]
               rfl
              refine pure_ (i := 5) (N := some 118) (v := ?_) (a' := ?_) (bs 26 127) rfl rfl (any_of HT_.out (by kernel_rfl)) (fun _ _ _ h => h) (Or.inl ⟨by rfl, ?_⟩) ?_ ?_; rotate_left
              ·intro w'
               go_simp
               with_reducible rfl
              rotate_left
              ·simp only [Act.put, sA, sB, sC, i64_w, i32_w]
               rfl
              refine take_ (i := 7) (N := some 120) (v := ?_) (a' := ?_) (bs 26 255) rfl rfl (take_ofW HT_.out HW_.out (by kernel_rfl)) (fun _ _ _ h => h) (Or.inl ⟨by rfl, ?_⟩) hHeld ?_ ?_; rotate_left
              ·rintro w' ⟨s0, s1, s2, s3, s4, s5, s6, s7, s8⟩
               go_simp
               with_reducible rfl
              rotate_left
              ·simp only [Act.put, sA, sB, sC, i64_w, i32_w]
               rfl
              refine pure_ (i := 8) (N := some 121) (v := ?_) (a' := ?_) (bs 26 511) rfl rfl (any_of HT_.out (by kernel_rfl)) (fun _ _ _ h => h) (Or.inl ⟨by rfl, ?_⟩) ?_ ?_; rotate_left
              ·intro w'
               go_simp
               with_reducible rfl
              rotate_left
              ·simp only [Act.put, sA, sB, sC, i64_w, i32_w]
               rfl
              refine pure_ (i := 9) (N := some 122) (v := ?_) (a' := ?_) (bs 26 1023) rfl rfl (any_of HT_.out (by kernel_rfl)) (fun _ _ _ h => h) (Or.inl ⟨by rfl, ?_⟩) ?_ ?_; rotate_left
              ·intro w'
               go_simp
               with_reducible rfl
              rotate_left
              ·simp only [Act.put, sA, sB, sC, i64_w, i32_w]
               rfl
              refine pure_ (i := 10) (N := some 123) (v := ?_) (a' := ?_) (bs 26 2047) rfl rfl (any_of HT_.out (by kernel_rfl)) (fun _ _ _ h => h) (Or.inl ⟨by rfl, ?_⟩) ?_ ?_; rotate_left
              ·intro w'
               go_simp
               with_reducible rfl
              rotate_left
              ·simp only [Act.put, sA, sB, sC, i64_w, i32_w]
               rfl
              refine pure_ (i := 11) (N := some 124) (v := ?_) (a' := ?_) (bs 26 4095) rfl rfl (any_of HT_.out (by kernel_rfl)) (fun _ _ _ h => h) (Or.inl ⟨by rfl, ?_⟩) ?_ ?_; rotate_left
              ·intro w'
               go_simp
               with_reducible rfl
              rotate_left
              ·simp only [Act.put, sA, sB, sC, i64_w, i32_w]
               rfl
              refine pure_ (i := 13) (N := some 126) (v := ?_) (a' := ?_) (bs 26 12287) rfl rfl (any_of HT_.out (by kernel_rfl)) (fun _ _ _ h => h) (Or.inl ⟨by rfl, ?_⟩) ?_ ?_; rotate_left
              ·intro w'
               go_simp
               with_reducible rfl
              rotate_left
              ·simp only [Act.put, sA, sB, sC, i64_w, i32_w]
               rfl
              refine pure_ (i := 19) (N := some 132) (v := ?_) (a' := ?_) (bs 26 536575) rfl rfl (any_of HT_.out (by kernel_rfl)) (fun _ _ _ h => h) (Or.inl ⟨by rfl, ?_⟩) ?_ ?_; rotate_left
              ·intro w'
               go_simp
               with_reducible rfl
              rotate_left
              ·simp only [Act.put, sA, sB, sC, i64_w, i32_w]
               rfl
              refine take_ (i := 12) (N := some 125) (v := ?_) (a' := ?_) (bs 26 540671) rfl rfl (take_ofW HT_.out HW_.out (by kernel_rfl)) (fun _ _ _ h => h) (Or.inl ⟨by rfl, ?_⟩) hHeld ?_ ?_; rotate_left
              ·rintro w' ⟨s0, s1, s2, s3, s4, s5, s6, s7, s8⟩
               go_simp
               with_reducible rfl
              rotate_left
              ·simp only [Act.put, sA, sB, sC, i64_w, i32_w]
               rfl
              refine take_ (i := 14) (N := some 127) (v := ?_) (a' := ?_) (bs 26 557055) rfl rfl (take_ofW HT_.out HW_.out (by kernel_rfl)) (fun _ _ _ h => h) (Or.inl ⟨by rfl, ?_⟩) hHeld ?_ ?_; rotate_left
              ·rintro w' ⟨s0, s1, s2, s3, s4, s5, s6, s7, s8⟩
               go_simp
               with_reducible rfl
              rotate_left
              ·simp only [Act.put, sA, sB, sC, i64_w, i32_w]
               rfl
              refine pure_ (i := 15) (N := some 128) (v := ?_) (a' := ?_) (bs 26 589823) rfl rfl (any_of HT_.out (by kernel_rfl)) (fun _ _ _ h => h) (Or.inl ⟨by rfl, ?_⟩) ?_ ?_; rotate_left
              ·intro w'
               go_simp
               with_reducible rfl
              rotate_left
              ·simp only [Act.put, sA, sB, sC, i64_w, i32_w]
               rfl
              refine pure_ (i := 16) (N := some 129) (v := ?_) (a' := ?_) (bs 26 655359) rfl rfl (any_of HT_.out (by kernel_rfl)) (fun _ _ _ h => h) (Or.inl ⟨by rfl, ?_⟩) ?_ ?_; rotate_left
              ·intro w'
               go_simp
               with_reducible rfl
              rotate_left
              ·simp only [Act.put, sA, sB, sC, i64_w, i32_w]
               rfl
              refine take_ (i := 17) (N := some 130) (v := ?_) (a' := ?_) (bs 26 786431) rfl rfl (take_ofW HT_.out HW_.out (by kernel_rfl)) (fun _ _ _ h => h) (Or.inl ⟨by rfl, ?_⟩) hHeld ?_ ?_; rotate_left
              ·rintro w' ⟨s0, s1, s2, s3, s4, s5, s6, s7, s8⟩
               go_simp
               with_reducible rfl
              rotate_left
              ·simp only [Act.put, sA, sB, sC, i64_w, i32_w]
               rfl
              refine pure_ (i := 18) (N := some 131) (v := ?_) (a' := ?_) (bs 26 1048575) rfl rfl (any_of HT_.out (by kernel_rfl)) (fun _ _ _ h => h) (Or.inl ⟨by rfl, ?_⟩) ?_ ?_; rotate_left
              ·intro w'
               go_simp
               with_reducible rfl
              rotate_left
              ·simp only [Act.put, sA, sB, sC, i64_w, i32_w]
               rfl
              refine take_ (i := 20) (N := some 133) (v := ?_) (a' := ?_) (bs 26 2097151) rfl rfl (take_ofW HT_.out HW_.out (by kernel_rfl)) (fun _ _ _ h => h) (Or.inl ⟨by rfl, ?_⟩) hHeld ?_ ?_; rotate_left
              ·rintro w' ⟨s0, s1, s2, s3, s4, s5, s6, s7, s8⟩
               go_simp
               with_reducible rfl
              rotate_left
              ·simp only [Act.put, sA, sB, sC, i64_w, i32_w]
               rfl
              refine pure_ (i := 21) (N := some 134) (v := ?_) (a' := ?_) (bs 26 4194303) rfl rfl (any_of HT_.out (by kernel_rfl)) (fun _ _ _ h => h) (Or.inl ⟨by rfl, ?_⟩) ?_ ?_; rotate_left
              ·intro w'
               go_simp
               with_reducible rfl
              rotate_left
              ·simp only [Act.put, sA, sB, sC, i64_w, i32_w]
               rfl
              refine pure_ (i := 22) (N := some 135) (v := ?_) (a' := ?_) (bs 26 8388607) rfl rfl (any_of HT_.out (by kernel_rfl)) (fun _ _ _ h => h) (Or.inl ⟨by rfl, ?_⟩) ?_ ?_; rotate_left
              ·intro w'
               go_simp
               with_reducible rfl
              rotate_left
              ·simp only [Act.put, sA, sB, sC, i64_w, i32_w]
               rfl
              refine pure_ (i := 23) (N := some 136) (v := ?_) (a' := ?_) (bs 26 16777215) rfl rfl (any_of HT_.out (by kernel_rfl)) (fun _ _ _ h => h) (Or.inl ⟨by rfl, ?_⟩) ?_ ?_; rotate_left
              ·intro w'
               go_simp
               with_reducible rfl
              rotate_left
              ·simp only [Act.put, sA, sB, sC, i64_w, i32_w]
               rfl
              refine pure_ (i := 24) (N := some 137) (v := ?_) (a' := ?_) (bs 26 33554431) rfl rfl (any_of HT_.out (by kernel_rfl)) (fun _ _ _ h => h) (Or.inl ⟨by rfl, ?_⟩) ?_ ?_; rotate_left
              ·intro w'
               go_simp
               with_reducible rfl
              rotate_left
              ·simp only [Act.put, sA, sB, sC, i64_w, i32_w]
               rfl
              refine pure_ (i := 25) (N := some 6) (v := ?_) (a' := ?_) (bs 26 67108863) rfl rfl (any_of HT_.out (by kernel_rfl)) (fun _ _ _ h => h) (Or.inl ⟨by rfl, ?_⟩) ?_ ?_; rotate_left
              ·intro w'
               go_simp
               with_reducible rfl
              rotate_left
              ·simp only [Act.put, sA, sB, sC, i64_w, i32_w]
               rfl
              refine done_ (done_of HT_.out (by kernel_rfl)) ?_
              try go_wp2
              go_ret
              exact ⟨by first | rfl | (simp [errW_none, errW_some] <;> rfl) | (simp [*, errW_none, errW_some] <;> rfl), by repeat (first | (with_reducible first | exact HB.out | apply bL | apply bP | apply bD | refine bS ?_ GE549.out | refine bS ?_ GE559.out | refine bS ?_ GE566.out) | exact HB.out)⟩
             ·rw [if_neg c75] at H
              exact absurd H (by simp)
            ·rw [if_neg c74] at H
             exact absurd H (by simp)
           ·rw [if_neg c73] at H
            have c73b0 : ((t553.length : Int) == (l0_0.length : Int)) = false := beq_eq_false_iff_ne.mpr c73; have c73b1 : ((t553.length : Int) != (l0_0.length : Int)) = true := bne_iff_ne.mpr c73
            have c73b2 : (t553.length == l0_0.length) = false := by first | simpa using c73 | (simp at c73 ⊢; omega)
            exact absurd H (by simp)
          ·rw [if_neg c72] at H
           have c72b0 : (t558 == 0) = false := beq_eq_false_iff_ne.mpr c72; have c72b1 : (t558 != 0) = true := bne_iff_ne.mpr c72; obtain rfl := Option.some.inj H
           try go_wp2
           have n0_ := zA (Kd.V_drew HO_560000.out); have n1_ := zA (Kd.V_drew HO_567000.out); have n2_ := zA (bW BK549.out); have n3_ := zA (bW BK559.out); have n4_ := zA (bW BK566.out); have n5_ := zA (bD HB.out); clear HO_560000; clear HO_567000; clear BK549; clear BK559; clear BK566; clear HB; have HO_560000 := n0_; have HO_567000 := n1_; have BK549 := n2_; have BK559 := n3_; have BK566 := n4_; have HB := n5_; clear n0_ n1_ n2_ n3_ n4_ n5_; refine start_ (n := 26) (S := fun w' => True) (ds := []) (bs 26 0) (by kernel_rfl) rfl rfl trivial (fun hHeld => ?_); refine with_tabW reelkeeperlaw13_DriveLost.tab10 reelkeeperlaw13_DriveLost.bits10 (fun HT_ HW_ => ?_)
           generalize wc.drew = w77 at HO_560000 HO_567000 BK549 BK559 BK566 HB hHeld ⊢
           refine pure_ (i := 0) (N := some 113) (v := ?_) (a' := ?_) (bs 26 1) rfl rfl (any_of HT_.out (by kernel_rfl)) (fun _ _ _ h => h) (Or.inl ⟨by rfl, ?_⟩) ?_ ?_; rotate_left
           ·intro w'
            go_simp
            with_reducible rfl
           rotate_left
           ·simp only [Act.put, sA, sB, sC, i64_w, i32_w]
            rfl
           refine pure_ (i := 1) (N := some 114) (v := ?_) (a' := ?_) (bs 26 3) rfl rfl (any_of HT_.out (by kernel_rfl)) (fun _ _ _ h => h) (Or.inl ⟨by rfl, ?_⟩) ?_ ?_; rotate_left
           ·intro w'
            go_simp
            with_reducible rfl
           rotate_left
           ·simp only [Act.put, sA, sB, sC, i64_w, i32_w]
            rfl
           refine pure_ (i := 2) (N := some 115) (v := ?_) (a' := ?_) (bs 26 7) rfl rfl (any_of HT_.out (by kernel_rfl)) (fun _ _ _ h => h) (Or.inl ⟨by rfl, ?_⟩) ?_ ?_; rotate_left
           ·intro w'
            go_simp
            with_reducible rfl
           rotate_left
           ·simp only [Act.put, sA, sB, sC, i64_w, i32_w]
            rfl
           refine pure_ (i := 3) (N := some 116) (v := undef) (a' := ?_) (bs 26 15) rfl rfl (any_of HT_.out (by kernel_rfl)) (fun _ _ _ h => h) (Or.inr ⟨by rfl, rfl⟩) ?_ ?_; rotate_left
           ·simp only [Act.put, sA, sB, sC, i64_w, i32_w]
            rfl
           refine pure_ (i := 4) (N := some 117) (v := undef) (a' := ?_) (bs 26 31) rfl rfl (any_of HT_.out (by kernel_rfl)) (fun _ _ _ h => h) (Or.inr ⟨by rfl, rfl⟩) ?_ ?_; rotate_left
           ·simp only [Act.put, sA, sB, sC, i64_w, i32_w]
            rfl
           refine pure_ (i := 5) (N := some 118) (v := undef) (a' := ?_) (bs 26 63) rfl rfl (any_of HT_.out (by kernel_rfl)) (fun _ _ _ h => h) (Or.inr ⟨by rfl, rfl⟩) ?_ ?_; rotate_left
           ·simp only [Act.put, sA, sB, sC, i64_w, i32_w]
            rfl
           refine pure_ (i := 6) (N := some 119) (v := undef) (a' := ?_) (bs 26 127) rfl rfl (any_of HT_.out (by kernel_rfl)) (fun _ _ _ h => h) (Or.inr ⟨by rfl, rfl⟩) ?_ ?_; rotate_left
           ·simp only [Act.put, sA, sB, sC, i64_w, i32_w]
            rfl
           refine pure_ (i := 7) (N := some 120) (v := undef) (a' := ?_) (bs 26 255) rfl rfl (any_of HT_.out (by kernel_rfl)) (fun _ _ _ h => h) (Or.inr ⟨by rfl, rfl⟩) ?_ ?_; rotate_left
           ·simp only [Act.put, sA, sB, sC, i64_w, i32_w]
            rfl
           refine pure_ (i := 8) (N := some 121) (v := undef) (a' := ?_) (bs 26 511) rfl rfl (any_of HT_.out (by kernel_rfl)) (fun _ _ _ h => h) (Or.inr ⟨by rfl, rfl⟩) ?_ ?_; rotate_left
           ·simp only [Act.put, sA, sB, sC, i64_w, i32_w]
            rfl
           refine pure_ (i := 9) (N := some 122) (v := undef) (a' := ?_) (bs 26 1023) rfl rfl (any_of HT_.out (by kernel_rfl)) (fun _ _ _ h => h) (Or.inr ⟨by rfl, rfl⟩) ?_ ?_; rotate_left
           ·simp only [Act.put, sA, sB, sC, i64_w, i32_w]
            rfl
           refine pure_ (i := 10) (N := some 123) (v := undef) (a' := ?_) (bs 26 2047) rfl rfl (any_of HT_.out (by kernel_rfl)) (fun _ _ _ h => h) (Or.inr ⟨by rfl, rfl⟩) ?_ ?_; rotate_left
           ·simp only [Act.put, sA, sB, sC, i64_w, i32_w]
            rfl
           refine pure_ (i := 11) (N := some 124) (v := undef) (a' := ?_) (bs 26 4095) rfl rfl (any_of HT_.out (by kernel_rfl)) (fun _ _ _ h => h) (Or.inr ⟨by rfl, rfl⟩) ?_ ?_; rotate_left
           ·simp only [Act.put, sA, sB, sC, i64_w, i32_w]
            rfl
           refine pure_ (i := 12) (N := some 125) (v := undef) (a' := ?_) (bs 26 8191) rfl rfl (any_of HT_.out (by kernel_rfl)) (fun _ _ _ h => h) (Or.inr ⟨by rfl, rfl⟩) ?_ ?_; rotate_left
           ·simp only [Act.put, sA, sB, sC, i64_w, i32_w]
            rfl
           refine pure_ (i := 13) (N := some 126) (v := undef) (a' := ?_) (bs 26 16383) rfl rfl (any_of HT_.out (by kernel_rfl)) (fun _ _ _ h => h) (Or.inr ⟨by rfl, rfl⟩) ?_ ?_; rotate_left
           ·simp only [Act.put, sA, sB, sC, i64_w, i32_w]
            rfl
           refine pure_ (i := 14) (N := some 127) (v := undef) (a' := ?_) (bs 26 32767) rfl rfl (any_of HT_.out (by kernel_rfl)) (fun _ _ _ h => h) (Or.inr ⟨by rfl, rfl⟩) ?_ ?_; rotate_left
           ·simp only [Act.put, sA, sB, sC, i64_w, i32_w]
            rfl
           refine pure_ (i := 15) (N := some 128) (v := undef) (a' := ?_) (bs 26 65535) rfl rfl (any_of HT_.out (by kernel_rfl)) (fun _ _ _ h => h) (Or.inr ⟨by rfl, rfl⟩) ?_ ?_; rotate_left
           ·simp only [Act.put, sA, sB, sC, i64_w, i32_w]
            rfl
           refine pure_ (i := 16) (N := some 129) (v := undef) (a' := ?_) (bs 26 131071) rfl rfl (any_of HT_.out (by kernel_rfl)) (fun _ _ _ h => h) (Or.inr ⟨by rfl, rfl⟩) ?_ ?_; rotate_left
           ·simp only [Act.put, sA, sB, sC, i64_w, i32_w]
            rfl
           refine pure_ (i := 17) (N := some 130) (v := undef) (a' := ?_) (bs 26 262143) rfl rfl (any_of HT_.out (by kernel_rfl)) (fun _ _ _ h => h) (Or.inr ⟨by rfl, rfl⟩) ?_ ?_; rotate_left
           ·simp only [Act.put, sA, sB, sC, i64_w, i32_w]
            rfl
           refine pure_ (i := 18) (N := some 131) (v := undef) (a' := ?_) (bs 26 524287) rfl rfl (any_of HT_.out (by kernel_rfl)) (fun _ _ _ h => h) (Or.inr ⟨by rfl, rfl⟩) ?_ ?_; rotate_left
           ·simp only [Act.put, sA, sB, sC, i64_w, i32_w]
            rfl
           refine pure_ (i := 19) (N := some 132) (v := undef) (a' := ?_) (bs 26 1048575) rfl rfl (any_of HT_.out (by kernel_rfl)) (fun _ _ _ h => h) (Or.inr ⟨by rfl, rfl⟩) ?_ ?_; rotate_left
           ·simp only [Act.put, sA, sB, sC, i64_w, i32_w]
            rfl
           refine pure_ (i := 20) (N := some 133) (v := undef) (a' := ?_) (bs 26 2097151) rfl rfl (any_of HT_.out (by kernel_rfl)) (fun _ _ _ h => h) (Or.inr ⟨by rfl, rfl⟩) ?_ ?_; rotate_left
           ·simp only [Act.put, sA, sB, sC, i64_w, i32_w]
            rfl
           refine pure_ (i := 21) (N := some 134) (v := undef) (a' := ?_) (bs 26 4194303) rfl rfl (any_of HT_.out (by kernel_rfl)) (fun _ _ _ h => h) (Or.inr ⟨by rfl, rfl⟩) ?_ ?_; rotate_left
           ·simp only [Act.put, sA, sB, sC, i64_w, i32_w]
            rfl
           refine pure_ (i := 22) (N := some 135) (v := undef) (a' := ?_) (bs 26 8388607) rfl rfl (any_of HT_.out (by kernel_rfl)) (fun _ _ _ h => h) (Or.inr ⟨by rfl, rfl⟩) ?_ ?_; rotate_left
           ·simp only [Act.put, sA, sB, sC, i64_w, i32_w]
            rfl
           refine pure_ (i := 23) (N := some 136) (v := undef) (a' := ?_) (bs 26 16777215) rfl rfl (any_of HT_.out (by kernel_rfl)) (fun _ _ _ h => h) (Or.inr ⟨by rfl, rfl⟩) ?_ ?_; rotate_left
           ·simp only [Act.put, sA, sB, sC, i64_w, i32_w]
            rfl
           refine pure_ (i := 24) (N := some 137) (v := ?_) (a' := ?_) (bs 26 33554431) rfl rfl (any_of HT_.out (by kernel_rfl)) (fun _ _ _ h => h) (Or.inl ⟨by rfl, ?_⟩) ?_ ?_; rotate_left
           ·intro w'
            go_simp
            with_reducible rfl
           rotate_left
           ·simp only [Act.put, sA, sB, sC, i64_w, i32_w]
            rfl
           refine pure_ (i := 25) (N := some 6) (v := ?_) (a' := ?_) (bs 26 67108863) rfl rfl (any_of HT_.out (by kernel_rfl)) (fun _ _ _ h => h) (Or.inl ⟨by rfl, ?_⟩) ?_ ?_; rotate_left
           ·intro w'
            go_simp
            with_reducible rfl
           rotate_left
           ·simp only [Act.put, sA, sB, sC, i64_w, i32_w]
            rfl
           refine done_ (done_of HT_.out (by kernel_rfl)) ?_
           try go_wp2
           go_ret
           exact ⟨by first | rfl | (simp [errW_none, errW_some] <;> rfl) | (simp [*, errW_none, errW_some] <;> rfl), by repeat (first | (with_reducible first | exact HB.out | apply bL | apply bP | apply bD | refine bS ?_ GE549.out | refine bS ?_ GE559.out | refine bS ?_ GE566.out) | exact HB.out)⟩
         ·replace c71 := Bool.eq_false_iff.mpr c71
          subst c71
          have H1 : (if 0 ≤ a0_1 then (if a0_1 < (l0_0.length : Int) then ((tape_Read.f ((rd_T41 l0_0 a0_1).f0) ((rd_T41 l0_0 a0_1).f1) ((rd_T41 l0_0 a0_1).f2) a2).bind fun bt572 => (if a0_1 < (t553.length : Int) then ((tape_Read.f ((rd_T41 t553 a0_1).f0) ((rd_T41 t553 a0_1).f1) ((rd_T41 t553 a0_1).f2) a2).bind fun bt577 => (if a0_1 < (t560.length : Int) then ((tape_Read.f ((rd_T41 t560 a0_1).f0) ((rd_T41 t560 a0_1).f1) ((rd_T41 t560 a0_1).f2) a2).bind fun bt582 => (if (strOfNums bt572.1).toList = (strOfNums bt577.1).toList then (some ((strOfNums bt572.1).toList == (strOfNums bt582.1).toList)) else (none))) else (none))) else (none))) else (none)) else (none)) = some r := by rw [if_neg (show ¬ (false = true) by decide)] at H; exact H
          clear H; have H := H1; clear H1
          by_cases c78 : 0 ≤ a0_1
          ·rw [if_pos c78] at H
           have c78b0 : decide (0 ≤ a0_1) = true := decide_eq_true c78; clear c78
           by_cases c79 : a0_1 < (l0_0.length : Int)
           ·rw [if_pos c79] at H
            have c79b0 : decide (a0_1 < (l0_0.length : Int)) = true := decide_eq_true c79; clear c79; replace H := Option.bind_eq_some_iff.mp H; obtain ⟨⟨t572, t575⟩, A800, H⟩ := H; replace H : (if a0_1 < (t553.length : Int) then ((tape_Read.f ((rd_T41 t553 a0_1).f0) ((rd_T41 t553 a0_1).f1) ((rd_T41 t553 a0_1).f2) a2).bind fun bt577 => (if a0_1 < (t560.length : Int) then ((tape_Read.f ((rd_T41 t560 a0_1).f0) ((rd_T41 t560 a0_1).f1) ((rd_T41 t560 a0_1).f2) a2).bind fun bt582 => (if (strOfNums t572).toList = (strOfNums bt577.1).toList then (some ((strOfNums t572).toList == (strOfNums bt582.1).toList)) else (none))) else (none))) else (none)) = some r := H; have A80 := zA A800; clear A800
            by_cases c81 : a0_1 < (t553.length : Int)
            ·rw [if_pos c81] at H
             have c81b0 : decide (a0_1 < (t553.length : Int)) = true := decide_eq_true c81; clear c81; replace H := Option.bind_eq_some_iff.mp H; obtain ⟨⟨t577, t580⟩, A820, H⟩ := H; replace H : (if a0_1 < (t560.length : Int) then ((tape_Read.f ((rd_T41 t560 a0_1).f0) ((rd_T41 t560 a0_1).f1) ((rd_T41 t560 a0_1).f2) a2).bind fun bt582 => (if (strOfNums t572).toList = (strOfNums t577).toList then (some ((strOfNums t572).toList == (strOfNums bt582.1).toList)) else (none))) else (none)) = some r := H; have A82 := zA A820; clear A820
             by_cases c83 : a0_1 < (t560.length : Int)
             ·rw [if_pos c83] at H
              have c83b0 : decide (a0_1 < (t560.length : Int)) = true := decide_eq_true c83; clear c83; replace H := Option.bind_eq_some_iff.mp H; obtain ⟨⟨t582, t585⟩, A840, H⟩ := H; replace H : (if (strOfNums t572).toList = (strOfNums t577).toList then (some ((strOfNums t572).toList == (strOfNums t582).toList)) else (none)) = some r := H; have A84 := zA A840; clear A840
              by_cases c85 : (strOfNums t572).toList = (strOfNums t577).toList
              ·rw [if_pos c85] at H
               have c85b0 : ((strOfNums t572).toList == (strOfNums t577).toList) = true := beq_iff_eq.mpr c85; have c85b1 : ((strOfNums t572).toList != (strOfNums t577).toList) = false := bne_eq_false_iff_eq.mpr c85; clear c85; obtain rfl := Option.some.inj H; have hnb86 := NB549_559.out; have hnc86 := NB559_549.out; have hnb87 := NB549_566.out; have hnc87 := NB566_549.out; have hcz88_0 : wc.cell? ⟨gb549, 0, none⟩ = some (.slice A0_0 l0_0.length c0_0) := (blk_cell BK549.out 0).trans rfl; have hcz88_1 : wc.cell? ⟨gb549, 1, none⟩ = some (.int .i64 a0_1) := (blk_cell BK549.out 1).trans rfl; have hcz88_2 : wc.cell? ⟨gb549, 2, none⟩ = some (.int .i64 a0_2) := (blk_cell BK549.out 2).trans rfl; have hfz88_0 := blk_frozen BK549.out 0; have hfz88_1 := blk_frozen BK549.out 1; have hfz88_2 := blk_frozen BK549.out 2; have p571 : 0 ≤ (a0_1 : Int) := of_decide_eq_true (by assumption); have q571 : a0_1 < (l0_0.length : Int) := of_decide_eq_true (by assumption); obtain ⟨ad571, A571_1, c571_1, e571, hx571_0, hx571_1, hx571_2, hl571_1, hi571_1⟩ := at_T41 HR0_0.out a0_1 p571 q571; cases e571; replace hx571_0 := (HB.out.cell (World.block_lt_of_cell? w _ hx571_0)).trans hx571_0; replace hx571_1 := (HB.out.cell (World.block_lt_of_cell? w _ hx571_1)).trans hx571_1; replace hx571_2 := (HB.out.cell (World.block_lt_of_cell? w _ hx571_2)).trans hx571_2; have HR571_1 := zA hi571_1; have HC571_1 := zA hl571_1; clear hi571_1 hl571_1; replace p571 := eq_true p571; replace q571 := eq_true q571
               go_wp2_with (first | ((with_reducible refine gate_callee (f := 29) rfl ?_); refine goesL_ (some 146) rfl rfl Try.func29 (by kernel_rfl) rfl #[.agg #[.int .i64 ((rd_T41 l0_0 a0_1).f0), .slice A571_1 ((rd_T41 l0_0 a0_1).f1).length c571_1, .bool ((rd_T41 l0_0 a0_1).f2)], .int .i64 a2] rfl (by (try simp only [List.map_toArray, List.map_cons, List.map_nil]); first | done | rfl | (simp only [List.length_drop, List.length_take]; rfl)) ?_; (with_reducible refine (tape_Read.calls ((rd_T41 l0_0 a0_1).f0) _ _ ((rd_T41 l0_0 a0_1).f1) ((rd_T41 l0_0 a0_1).f2) a2 t572 t575 _ ?side1 ?side2 A80.out).mono ?_); (case side1 => repeat (first | exact (Kd.C_below HR571_1.out HB.out) | (with_reducible refine Kd.C_alloc ?_ _) | (with_reducible refine Kd.C_drewN ?_ _) | (with_reducible refine Kd.C_drew ?_))); (case side2 => exact HC571_1.out); rintro e w89 ⟨v573, rfl, ho0, hb⟩; refine ⟨_, rfl, ?_⟩; have n0_ := zA (Kd.V_elder' HO_560000.out (Kd.R_base ho0) hb); have n1_ := zA (Kd.V_elder' HO_567000.out (Kd.R_base ho0) hb); have n2_ := zA (Kd.R_lower ho0 (below_size (by repeat (first | (with_reducible first | exact HB.out | apply bL | apply bP | apply bD | refine bS ?_ GE549.out | refine bS ?_ GE559.out | refine bS ?_ GE566.out) | exact HB.out)))); have n3_ := zA (bK BK549.out hb); have n4_ := zA (bK BK559.out hb); have n5_ := zA (bK BK566.out hb); have n6_ := zA (below_step (by repeat (first | (with_reducible first | exact HB.out | apply bL | apply bP | apply bD | refine bS ?_ GE549.out | refine bS ?_ GE559.out | refine bS ?_ GE566.out) | exact HB.out)) hb); clear HO_560000; clear HO_567000; clear BK549; clear BK559; clear BK566; clear HB; have HO_560000 := n0_; have HO_567000 := n1_; have HO574 := n2_; have BK549 := n3_; have BK559 := n4_; have BK566 := n5_; have HB := n6_; clear n0_ n1_ n2_ n3_ n4_ n5_ n6_; (try clear hb); (try clear hb2); (try clear hk); (try clear hi); (try clear ho0); have hnb90 := NB559_566.out; have hnc90 := NB566_559.out; have hcz91_0 : w89.cell? ⟨gb559, 0, none⟩ = some (.slice Ao28 t553.length co28) := (blk_cell BK559.out 0).trans rfl; have hcz91_1 : w89.cell? ⟨gb559, 1, none⟩ = some (.int .i64 t556) := (blk_cell BK559.out 1).trans rfl; have hcz91_2 : w89.cell? ⟨gb559, 2, none⟩ = some (.int .i64 t557) := (blk_cell BK559.out 2).trans rfl; have hfz91_0 := blk_frozen BK559.out 0; have hfz91_1 := blk_frozen BK559.out 1; have hfz91_2 := blk_frozen BK559.out 2; have hcz92_0 : w89.cell? ⟨gb549, 0, none⟩ = some (.slice (some ad571) l0_0.length c0_0) := (blk_cell BK549.out 0).trans rfl; have hcz92_1 : w89.cell? ⟨gb549, 1, none⟩ = some (.int .i64 a0_1) := (blk_cell BK549.out 1).trans rfl; have hcz92_2 : w89.cell? ⟨gb549, 2, none⟩ = some (.int .i64 a0_2) := (blk_cell BK549.out 2).trans rfl; have hfz92_0 := blk_frozen BK549.out 0; have hfz92_1 := blk_frozen BK549.out 1; have hfz92_2 := blk_frozen BK549.out 2; have p576 : 0 ≤ (a0_1 : Int) := of_decide_eq_true (by assumption); have q576 : a0_1 < (t553.length : Int) := of_decide_eq_true (by assumption); obtain ⟨ad576, A576_1, c576_1, e576, hx576_0, hx576_1, hx576_2, hl576_1, hi576_1⟩ := at_T41 (Kd.V_reads' HO_560000.out).2.2 a0_1 p576 q576; cases e576; obtain ⟨ce576, hce576, hMe576, hcc576⟩ := Kd.V_get HO_560000.out z41 a0_1 p576 (by first | exact q576 | exact of_decide_eq_true (by assumption) | (have e_ := (Kd.V_reads' HO_560000.out).1; omega)); obtain ⟨ua576_1, uc576_1, rfl, ul576_1, ge576_1⟩ := k41_openF hMe576; have hv576_1 := hcc576 1 _ rfl; rw [add_field _ _ 1 (by omega)] at hv576_1; replace hv576_1 := Option.some.inj (hv576_1.symm.trans hx576_1); injection hv576_1 with hva_ hvn_ hvc_; rw [hva_] at ge576_1; rw [hvc_] at ul576_1; have HL576_1 := zA (show Kd.V (Kd.slice 5 (Kd.int .u8)) 25 _ w.heap.size _ _ ((rd_T41 t553 a0_1).f1) from Kd.V_mk ul576_1 ge576_1); clear hva_ hvn_ hvc_ ge576_1 ul576_1; clear hcc576 hce576; have HR576_1 := zA hi576_1; have HC576_1 := zA hl576_1; clear hi576_1 hl576_1; replace p576 := eq_true p576; replace q576 := eq_true q576) | ((with_reducible refine gate_callee (f := 29) rfl ?_); refine goesL_ (some 157) rfl rfl Try.func29 (by kernel_rfl) rfl #[.agg #[.int .i64 ((rd_T41 t553 a0_1).f0), .slice A576_1 ((rd_T41 t553 a0_1).f1).length c576_1, .bool ((rd_T41 t553 a0_1).f2)], .int .i64 a2] rfl (by (try simp only [List.map_toArray, List.map_cons, List.map_nil]); first | done | rfl | (simp only [List.length_drop, List.length_take]; rfl)) ?_; (with_reducible refine (tape_Read.calls ((rd_T41 t553 a0_1).f0) _ _ ((rd_T41 t553 a0_1).f1) ((rd_T41 t553 a0_1).f2) a2 t577 t580 _ ?side1 ?side2 A82.out).mono ?_); (case side1 => repeat (first | exact (by repeat (first | (with_reducible exact HR576_1.out) | (with_reducible refine Kd.C_alloc ?_ _) | (with_reducible refine Kd.C_drewN ?_ _) | (with_reducible refine Kd.C_drew ?_) | exact HR576_1.out)) | (with_reducible refine Kd.C_alloc ?_ _) | (with_reducible refine Kd.C_drewN ?_ _) | (with_reducible refine Kd.C_drew ?_))); (case side2 => exact HC576_1.out); rintro e w93 ⟨v578, rfl, ho0, hb⟩; refine ⟨_, rfl, ?_⟩; have n0_ := zA (Kd.V_elder' HO_560000.out (Kd.R_base ho0) hb); have n1_ := zA (Kd.V_elder' HO_567000.out (Kd.R_base ho0) hb); have n2_ := zA (Kd.R_elder' HO574.out (Kd.R_base ho0) hb); have n3_ := zA (Kd.V_elder' HL576_1.out (Kd.R_base ho0) hb); have n4_ := zA (Kd.R_lower (Kd.R_new' ho0 (Kd.R_lt HO574.out)) (below_size (by repeat (first | (with_reducible first | exact HB.out | apply bL | apply bP | apply bD | refine bS ?_ GE549.out | refine bS ?_ GE559.out | refine bS ?_ GE566.out) | exact HB.out)))); have n5_ := zA (bK BK549.out hb); have n6_ := zA (bK BK559.out hb); have n7_ := zA (bK BK566.out hb); have n8_ := zA (Kd.C_below (by repeat (first | (with_reducible exact HR576_1.out) | (with_reducible refine Kd.C_alloc ?_ _) | (with_reducible refine Kd.C_drewN ?_ _) | (with_reducible refine Kd.C_drew ?_) | exact HR576_1.out)) hb); have n9_ := zA (below_step (by repeat (first | (with_reducible first | exact HB.out | apply bL | apply bP | apply bD | refine bS ?_ GE549.out | refine bS ?_ GE559.out | refine bS ?_ GE566.out) | exact HB.out)) hb); clear HO_560000; clear HO_567000; clear HO574; clear HL576_1; clear BK549; clear BK559; clear BK566; clear HR576_1; clear HB; have HO_560000 := n0_; have HO_567000 := n1_; have HO574 := n2_; have HL576_1 := n3_; have HO579 := n4_; have BK549 := n5_; have BK559 := n6_; have BK566 := n7_; have HR576_1 := n8_; have HB := n9_; clear n0_ n1_ n2_ n3_ n4_ n5_ n6_ n7_ n8_ n9_; (try clear hb); (try clear hb2); (try clear hk); (try clear hi); (try clear ho0); have hcz94_0 : w93.cell? ⟨gb566, 0, none⟩ = some (.slice Ao34 t560.length co34) := (blk_cell BK566.out 0).trans rfl; have hcz94_1 : w93.cell? ⟨gb566, 1, none⟩ = some (.int .i64 t563) := (blk_cell BK566.out 1).trans rfl; have hcz94_2 : w93.cell? ⟨gb566, 2, none⟩ = some (.int .i64 t564) := (blk_cell BK566.out 2).trans rfl; have hfz94_0 := blk_frozen BK566.out 0; have hfz94_1 := blk_frozen BK566.out 1; have hfz94_2 := blk_frozen BK566.out 2; have hcz95_0 : w93.cell? ⟨gb549, 0, none⟩ = some (.slice (some ad571) l0_0.length c0_0) := (blk_cell BK549.out 0).trans rfl; have hcz95_1 : w93.cell? ⟨gb549, 1, none⟩ = some (.int .i64 a0_1) := (blk_cell BK549.out 1).trans rfl; have hcz95_2 : w93.cell? ⟨gb549, 2, none⟩ = some (.int .i64 a0_2) := (blk_cell BK549.out 2).trans rfl; have hfz95_0 := blk_frozen BK549.out 0; have hfz95_1 := blk_frozen BK549.out 1; have hfz95_2 := blk_frozen BK549.out 2; have p581 : 0 ≤ (a0_1 : Int) := of_decide_eq_true (by assumption); have q581 : a0_1 < (t560.length : Int) := of_decide_eq_true (by assumption); obtain ⟨ad581, A581_1, c581_1, e581, hx581_0, hx581_1, hx581_2, hl581_1, hi581_1⟩ := at_T41 (Kd.V_reads' HO_567000.out).2.2 a0_1 p581 q581; cases e581; obtain ⟨ce581, hce581, hMe581, hcc581⟩ := Kd.V_get HO_567000.out z41 a0_1 p581 (by first | exact q581 | exact of_decide_eq_true (by assumption) | (have e_ := (Kd.V_reads' HO_567000.out).1; omega)); obtain ⟨ua581_1, uc581_1, rfl, ul581_1, ge581_1⟩ := k41_openF hMe581; have hv581_1 := hcc581 1 _ rfl; rw [add_field _ _ 1 (by omega)] at hv581_1; replace hv581_1 := Option.some.inj (hv581_1.symm.trans hx581_1); injection hv581_1 with hva_ hvn_ hvc_; rw [hva_] at ge581_1; rw [hvc_] at ul581_1; have HL581_1 := zA (show Kd.V (Kd.slice 5 (Kd.int .u8)) 25 _ w.heap.size _ _ ((rd_T41 t560 a0_1).f1) from Kd.V_mk ul581_1 ge581_1); clear hva_ hvn_ hvc_ ge581_1 ul581_1; clear hcc581 hce581; have HR581_1 := zA hi581_1; have HC581_1 := zA hl581_1; clear hi581_1 hl581_1; replace p581 := eq_true p581; replace q581 := eq_true q581) | ((with_reducible refine gate_callee (f := 29) rfl ?_); refine goesL_ (some 168) rfl rfl Try.func29 (by kernel_rfl) rfl #[.agg #[.int .i64 ((rd_T41 t560 a0_1).f0), .slice A581_1 ((rd_T41 t560 a0_1).f1).length c581_1, .bool ((rd_T41 t560 a0_1).f2)], .int .i64 a2] rfl (by (try simp only [List.map_toArray, List.map_cons, List.map_nil]); first | done | rfl | (simp only [List.length_drop, List.length_take]; rfl)) ?_; (with_reducible refine (tape_Read.calls ((rd_T41 t560 a0_1).f0) _ _ ((rd_T41 t560 a0_1).f1) ((rd_T41 t560 a0_1).f2) a2 t582 t585 _ ?side1 ?side2 A84.out).mono ?_); (case side1 => repeat (first | exact (by repeat (first | (with_reducible exact HR581_1.out) | (with_reducible refine Kd.C_alloc ?_ _) | (with_reducible refine Kd.C_drewN ?_ _) | (with_reducible refine Kd.C_drew ?_) | exact HR581_1.out)) | (with_reducible refine Kd.C_alloc ?_ _) | (with_reducible refine Kd.C_drewN ?_ _) | (with_reducible refine Kd.C_drew ?_))); (case side2 => exact HC581_1.out); rintro e w96 ⟨v583, rfl, ho0, hb⟩; refine ⟨_, rfl, ?_⟩; have n0_ := zA (Kd.V_elder' HO_560000.out (Kd.R_base ho0) hb); have n1_ := zA (Kd.V_elder' HO_567000.out (Kd.R_base ho0) hb); have n2_ := zA (Kd.R_elder' HO574.out (Kd.R_base ho0) hb); have n3_ := zA (Kd.V_elder' HL576_1.out (Kd.R_base ho0) hb); have n4_ := zA (Kd.R_elder' HO579.out (Kd.R_base ho0) hb); have n5_ := zA (Kd.V_elder' HL581_1.out (Kd.R_base ho0) hb); have n6_ := zA (Kd.R_lower (Kd.R_new' (Kd.R_new' ho0 (Kd.R_lt HO574.out)) (Kd.R_lt HO579.out)) (below_size (by repeat (first | (with_reducible first | exact HB.out | apply bL | apply bP | apply bD | refine bS ?_ GE549.out | refine bS ?_ GE559.out | refine bS ?_ GE566.out) | exact HB.out)))); have n7_ := zA (bK BK549.out hb); have n8_ := zA (bK BK559.out hb); have n9_ := zA (bK BK566.out hb); have n10_ := zA (Kd.C_below (by repeat (first | (with_reducible exact HR576_1.out) | (with_reducible refine Kd.C_alloc ?_ _) | (with_reducible refine Kd.C_drewN ?_ _) | (with_reducible refine Kd.C_drew ?_) | exact HR576_1.out)) hb); have n11_ := zA (Kd.C_below (by repeat (first | (with_reducible exact HR581_1.out) | (with_reducible refine Kd.C_alloc ?_ _) | (with_reducible refine Kd.C_drewN ?_ _) | (with_reducible refine Kd.C_drew ?_) | exact HR581_1.out)) hb); have n12_ := zA (below_step (by repeat (first | (with_reducible first | exact HB.out | apply bL | apply bP | apply bD | refine bS ?_ GE549.out | refine bS ?_ GE559.out | refine bS ?_ GE566.out) | exact HB.out)) hb); clear HO_560000; clear HO_567000; clear HO574; clear HL576_1; clear HO579; clear HL581_1; clear BK549; clear BK559; clear BK566; clear HR576_1; clear HR581_1; clear HB; have HO_560000 := n0_; have HO_567000 := n1_; have HO574 := n2_; have HL576_1 := n3_; have HO579 := n4_; have HL581_1 := n5_; have HO584 := n6_; have BK549 := n7_; have BK559 := n8_; have BK566 := n9_; have HR576_1 := n10_; have HR581_1 := n11_; have HB := n12_; clear n0_ n1_ n2_ n3_ n4_ n5_ n6_ n7_ n8_ n9_ n10_ n11_ n12_; (try clear hb); (try clear hb2); (try clear hk); (try clear hi); (try clear ho0); have hcv97 := own_string (P := Try.prog) Try.underlying25 Try.underlying5 Try.underlying9 (Kd.own_of_R HO574.out); have hcv97q := fun (m_ : Nat) => own_string (P := Try.prog) Try.underlying25 Try.underlying5 Try.underlying9 (Kd.own_of_R (Kd.R_drewN HO574.out m_)); have hcv98 := own_string (P := Try.prog) Try.underlying25 Try.underlying5 Try.underlying9 (Kd.own_of_R HO579.out); have hcv98q := fun (m_ : Nat) => own_string (P := Try.prog) Try.underlying25 Try.underlying5 Try.underlying9 (Kd.own_of_R (Kd.R_drewN HO579.out m_)); have hcv99 := own_string (P := Try.prog) Try.underlying25 Try.underlying5 Try.underlying9 (Kd.own_of_R HO574.out); have hcv99q := fun (m_ : Nat) => own_string (P := Try.prog) Try.underlying25 Try.underlying5 Try.underlying9 (Kd.own_of_R (Kd.R_drewN HO574.out m_)); have hcv100 := own_string (P := Try.prog) Try.underlying25 Try.underlying5 Try.underlying9 (Kd.own_of_R HO584.out); have hcv100q := fun (m_ : Nat) => own_string (P := Try.prog) Try.underlying25 Try.underlying5 Try.underlying9 (Kd.own_of_R (Kd.R_drewN HO584.out m_))))
               go_ret
               exact ⟨by first | rfl | (simp [errW_none, errW_some] <;> rfl) | (simp [*, errW_none, errW_some] <;> rfl), by repeat (first | (with_reducible first | exact HB.out | apply bL | apply bP | apply bD | refine bS ?_ GE549.out | refine bS ?_ GE559.out | refine bS ?_ GE566.out) | exact HB.out)⟩
              ·rw [if_neg c85] at H
               exact absurd H (by simp)
             ·rw [if_neg c83] at H
              exact absurd H (by simp)
            ·rw [if_neg c81] at H
             exact absurd H (by simp)
           ·rw [if_neg c79] at H
            exact absurd H (by simp)
          ·rw [if_neg c78] at H
           exact absurd H (by simp)

end Go.Proofs.Ytpbfeegfkiegeaa.M
