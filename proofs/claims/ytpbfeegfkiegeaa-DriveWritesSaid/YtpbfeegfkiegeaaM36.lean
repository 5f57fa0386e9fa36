/- Part of a claim: what some functions of the program compute, each with its contract; no condition of its own. Written by a program of this workplace (gen.py, over the print of the kit) and by hand. -/
import Derived.Test.YtpbfeegfkiegeaaM0
import Derived.Test.YtpbfeegfkiegeaaM5
import Derived.Test.YtpbfeegfkiegeaaM9
import Derived.Test.YtpbfeegfkiegeaaM11
import Derived.Test.YtpbfeegfkiegeaaM12
import Derived.Test.YtpbfeegfkiegeaaM14
import Derived.Test.YtpbfeegfkiegeaaM17
import Derived.Test.YtpbfeegfkiegeaaM18
import Derived.Test.YtpbfeegfkiegeaaM19
import Derived.Test.YtpbfeegfkiegeaaM21
namespace Go.Proofs.Ytpbfeegfkiegeaa.M
open Go.RowKit Go.Proofs.YtpbfeegfkiegeaaW.PrintWords Go.Proofs.YtpbfeegfkiegeaaW.PrintLast Go.Proofs.YtpbfeegfkiegeaaW.PrintMore
attribute [local go_sem] max2_int min2_int max_two min_two max_three min_three max_four min_four   -- for this text's walks alone
set_option linter.unusedVariables false
set_option linter.unusedSimpArgs false

/-! ### reelkeeperlaw13_DriveWrites: function 4 -/
mutual
def reelkeeperlaw13_DriveWrites.j0 : Nat → List Int → Int → Bool → Bool → List (S41) → Int → Int → Option (Bool)
  | 0, _, _, _, _, _, _, _ => none
  | k + 1, x1, x2, x7, x31, x478000, x478001, x478002 => if x31 = true then (some x7) else ((drive_Write.f x478000 x478001 x478002 x1).bind fun bt481 => (if bt481.2.2.2 = 0 then ((drive_May.f bt481.1 bt481.2.1 bt481.2.2.1).bind fun t489 => (if t489 = true then (if x478001 < 0 then (reelkeeperlaw13_DriveWrites.j1 k x1 x2 true x478000 x478001 x478002 bt481.1 bt481.2.1 bt481.2.2.1) else (if bt481.2.1 = x478001 then (if bt481.2.2.1 = (wrap64 (x478002 + 1)) then (if (bt481.1.length : Int) = (x478000.length : Int) then (if 0 ≤ bt481.2.1 then (if bt481.2.1 < (bt481.1.length : Int) then (reelkeeperlaw13_DriveWrites.j1 k x1 x2 ((((rd_T41 bt481.1 bt481.2.1).f1).length : Int) != bt481.2.2.1) x478000 x478001 x478002 bt481.1 bt481.2.1 bt481.2.2.1) else (none)) else (none)) else (reelkeeperlaw13_DriveWrites.j1 k x1 x2 true x478000 x478001 x478002 bt481.1 bt481.2.1 bt481.2.2.1)) else (reelkeeperlaw13_DriveWrites.j1 k x1 x2 true x478000 x478001 x478002 bt481.1 bt481.2.1 bt481.2.2.1)) else (reelkeeperlaw13_DriveWrites.j1 k x1 x2 true x478000 x478001 x478002 bt481.1 bt481.2.1 bt481.2.2.1))) else (reelkeeperlaw13_DriveWrites.j1 k x1 x2 true x478000 x478001 x478002 bt481.1 bt481.2.1 bt481.2.2.1))) else ((drive_Same.f bt481.1 bt481.2.1 bt481.2.2.1 x478000 x478001 x478002).bind fun t488 => (some t488))))
def reelkeeperlaw13_DriveWrites.j1 : Nat → List Int → Int → Bool → List (S41) → Int → Int → List (S41) → Int → Int → Option (Bool)
  | 0, _, _, _, _, _, _, _, _, _ => none
  | k + 1, x1, x2, x88, x478000, x478001, x478002, x488000, x488001, x488002 => if x88 = true then (none) else (if 0 ≤ x488001 then (if x488001 < (x488000.length : Int) then ((tape_Read.f ((rd_T41 x488000 x488001).f0) ((rd_T41 x488000 x488001).f1) ((rd_T41 x488000 x488001).f2) x478002).bind fun bt492 => (if bt492.2 = 0 then (if (strOfNums bt492.1).toList = (strOfNums x1).toList then (if x2 < 0 then (some true) else (if x2 ≥ (x478000.length : Int) then (some true) else (if x2 = x478001 then (some true) else (if 0 ≤ x2 then (if x2 < (x488000.length : Int) then (if x2 < (x478000.length : Int) then ((tape_Same.f ((rd_T41 x488000 x2).f0) ((rd_T41 x488000 x2).f1) ((rd_T41 x488000 x2).f2) ((rd_T41 x478000 x2).f0) ((rd_T41 x478000 x2).f1) ((rd_T41 x478000 x2).f2)).bind fun t498 => (some t498)) else (none)) else (none)) else (none))))) else (none)) else (none))) else (none)) else (none))
end
def reelkeeperlaw13_DriveWrites.f (k : Nat) (l0_0 : List (S41)) (a0_1 : Int) (a0_2 : Int) (l1 : List Int) (a2 : Int) : Option (Bool) := (reelkeeperlaw13_awake.f).bind fun t478 => ((reelkeeperlaw13_Few.f k l0_0 a0_1 a0_2).bind fun t479 => (if t478 = true then (if t479 = true then (if (l1.length : Int) > 12000 then (reelkeeperlaw13_DriveWrites.j0 k l1 a2 t478 true l0_0 a0_1 a0_2) else ((drive_May.f l0_0 a0_1 a0_2).bind fun t480 => (reelkeeperlaw13_DriveWrites.j0 k l1 a2 t478 (!t480) l0_0 a0_1 a0_2))) else (reelkeeperlaw13_DriveWrites.j0 k l1 a2 t478 true l0_0 a0_1 a0_2)) else (reelkeeperlaw13_DriveWrites.j0 k l1 a2 t478 true l0_0 a0_1 a0_2)))
theorem reelkeeperlaw13_DriveWrites.mono_l : ∀ k, (∀ y0 y1 y2 y3 y4 y5 y6, LeO (reelkeeperlaw13_DriveWrites.j0 k y0 y1 y2 y3 y4 y5 y6) (reelkeeperlaw13_DriveWrites.j0 (k + 1) y0 y1 y2 y3 y4 y5 y6)) ∧ (∀ y0 y1 y2 y3 y4 y5 y6 y7 y8, LeO (reelkeeperlaw13_DriveWrites.j1 k y0 y1 y2 y3 y4 y5 y6 y7 y8) (reelkeeperlaw13_DriveWrites.j1 (k + 1) y0 y1 y2 y3 y4 y5 y6 y7 y8))
  | 0 => ⟨fun _ _ _ _ _ _ _ r h => by simp [reelkeeperlaw13_DriveWrites.j0] at h, fun _ _ _ _ _ _ _ _ _ r h => by simp [reelkeeperlaw13_DriveWrites.j1] at h⟩
  | k + 1 => by
    obtain ⟨ih0, ih1⟩ := reelkeeperlaw13_DriveWrites.mono_l k
    refine ⟨?_, ?_⟩
    · intro y0 y1 y2 y3 y4 y5 y6
      unfold reelkeeperlaw13_DriveWrites.j0
      repeat' first
      | (with_reducible exact ih0 _ _ _ _ _ _ _)
      | (with_reducible exact ih1 _ _ _ _ _ _ _ _ _)
      | (with_reducible exact reelkeeperlaw13_Few.mono _ _ _ _)
      | (with_reducible exact LeO.refl _)
      | (with_reducible exact LeO.none _)
      | (with_reducible refine LeO.ite ?_ ?_)
      | (with_reducible refine LeO.bind ?_ (fun _ => ?_))
      | exact ih0 _ _ _ _ _ _ _
      | exact ih1 _ _ _ _ _ _ _ _ _
      | exact reelkeeperlaw13_Few.mono _ _ _ _
      | exact LeO.none _
      | refine LeO.ite ?_ ?_
      | refine LeO.bind ?_ (fun _ => ?_)
    · intro y0 y1 y2 y3 y4 y5 y6 y7 y8
      unfold reelkeeperlaw13_DriveWrites.j1
      repeat' first
      | (with_reducible exact ih0 _ _ _ _ _ _ _)
      | (with_reducible exact ih1 _ _ _ _ _ _ _ _ _)
      | (with_reducible exact reelkeeperlaw13_Few.mono _ _ _ _)
      | (with_reducible exact LeO.refl _)
      | (with_reducible exact LeO.none _)
      | (with_reducible refine LeO.ite ?_ ?_)
      | (with_reducible refine LeO.bind ?_ (fun _ => ?_))
      | exact ih0 _ _ _ _ _ _ _
      | exact ih1 _ _ _ _ _ _ _ _ _
      | exact reelkeeperlaw13_Few.mono _ _ _ _
      | exact LeO.none _
      | refine LeO.ite ?_ ?_
      | refine LeO.bind ?_ (fun _ => ?_)
theorem reelkeeperlaw13_DriveWrites.mono : ∀ a0 a1 a2 a3 a4 k, LeO (reelkeeperlaw13_DriveWrites.f k a0 a1 a2 a3 a4) (reelkeeperlaw13_DriveWrites.f (k + 1) a0 a1 a2 a3 a4) := by
  intro a0 a1 a2 a3 a4 k
  obtain ⟨ih0, ih1⟩ := reelkeeperlaw13_DriveWrites.mono_l k
  unfold reelkeeperlaw13_DriveWrites.f
  repeat' first
      | (with_reducible exact ih0 _ _ _ _ _ _ _)
      | (with_reducible exact ih1 _ _ _ _ _ _ _ _ _)
      | (with_reducible exact reelkeeperlaw13_Few.mono _ _ _ _)
      | (with_reducible exact LeO.refl _)
      | (with_reducible exact LeO.none _)
      | (with_reducible refine LeO.ite ?_ ?_)
      | (with_reducible refine LeO.bind ?_ (fun _ => ?_))
      | exact ih0 _ _ _ _ _ _ _
      | exact ih1 _ _ _ _ _ _ _ _ _
      | exact reelkeeperlaw13_Few.mono _ _ _ _
      | exact LeO.none _
      | refine LeO.ite ?_ ?_
      | refine LeO.bind ?_ (fun _ => ?_)
def reelkeeperlaw13_DriveWrites.T8 : Bool × List (List Nat × List Nat) := (true, [([], []), ([0], [0]), ([1], [1]), ([2, 1], [2]), ([3], [3]), ([4, 3], [3, 4]), ([5, 3], [3, 5]), ([3, 6], [3, 6]), ([7, 3], [7]), ([8], [8]), ([9, 8], [8, 9]), ([8], [8]), ([11, 8], [8, 11]), ([10, 12, 8], [8, 10, 12]), ([8, 13], [8, 13]), ([14, 8], [14]), ([15], [15]), ([16, 15], [15, 16]), ([15], [15]), ([18, 15], [15, 18]), ([19, 15], [15, 19]), ([17, 20, 15], [15, 17, 20]), ([15, 21], [15, 21]), ([22, 15], [22]), ([23], [23]), ([24, 23], [23, 24]), ([25, 23], [23, 25]), ([23], [23]), ([27, 23], [23, 27]), ([28, 23], [23, 28]), ([26, 29, 23], [23, 26, 29]), ([23, 30], [23, 30]), ([31, 23], [31]), ([32], [32]), ([33, 32], [32, 33]), ([32], [32]), ([35, 32], [32, 35]), ([34, 36, 32], [32, 34, 36]), ([37, 32], [32, 37]), ([38, 32], [32, 38]), ([39, 32], [32, 39]), ([32], [32]), ([41, 32], [32, 41]), ([40, 42, 32], [32, 40, 42]), ([32, 43], [32, 43])])
def reelkeeperlaw13_DriveWrites.B8 : List Nat := [0, 1, 3, 7, 15, 31, 63, 127, 255, 511, 1023, 511, 2559, 8191, 16383, 32767, 65535, 131071, 65535, 327679, 851967, 2097151, 4194303, 8388607, 16777215, 33554431, 67108863, 16777215, 150994943, 419430399, 1073741823, 2147483647, 4294967295, 8589934591, 17179869183, 8589934591, 42949672959, 137438953471, 274877906943, 549755813887, 1099511627775, 8589934591, 2207613190143, 8796093022207, 17592186044415]
theorem reelkeeperlaw13_DriveWrites.tab8 : rtab .any (opsOf Try.f4 8) = reelkeeperlaw13_DriveWrites.T8 := by kernel_rfl
theorem reelkeeperlaw13_DriveWrites.bits8 : waitsOk reelkeeperlaw13_DriveWrites.T8.2 reelkeeperlaw13_DriveWrites.B8 = true := by kernel_rfl
def reelkeeperlaw13_DriveWrites.T10 : Bool × List (List Nat × List Nat) := (true, [([], []), ([0], [0]), ([], []), ([2], [2]), ([1, 3], [1, 3]), ([4], [4]), ([], []), ([6], [6]), ([5, 7], [5, 7]), ([8], [8]), ([9], [9]), ([9], [9]), ([10, 8, 0, 1, 2, 3, 4, 5, 6, 7, 8, 9, 10], [10]), ([11, 12, 0, 1, 2, 3, 4, 5, 6, 7, 8, 9, 10, 11, 12], [11])])
def reelkeeperlaw13_DriveWrites.B10 : List Nat := [0, 1, 0, 4, 15, 31, 0, 64, 255, 511, 1023, 1023, 2047, 8191]
theorem reelkeeperlaw13_DriveWrites.tab10 : rtab .any (opsOf Try.f4 10) = reelkeeperlaw13_DriveWrites.T10 := by kernel_rfl
theorem reelkeeperlaw13_DriveWrites.bits10 : waitsOk reelkeeperlaw13_DriveWrites.T10.2 reelkeeperlaw13_DriveWrites.B10 = true := by kernel_rfl
def reelkeeperlaw13_DriveWrites.T11 : Bool × List (List Nat × List Nat) := (true, [([], []), ([0], [0]), ([1], [1]), ([2], [2]), ([3, 2], [2, 3]), ([2], [2]), ([5, 2], [2, 5]), ([4, 6, 2], [2, 4, 6]), ([2, 7], [2, 7]), ([8, 2], [8]), ([9], [9]), ([10, 9], [9, 10]), ([11, 9, 9], [9, 11]), ([12], [12]), ([12], [12]), ([14, 12], [12, 14]), ([15, 12], [12, 15]), ([13, 16, 12], [12, 13, 16]), ([12, 17, 9], [9, 12, 17]), ([18, 12, 9], [9, 18]), ([19], [19]), ([19], [19]), ([21, 19], [19, 21]), ([20, 22, 19], [19, 20, 22]), ([19, 23, 9], [9, 19, 23]), ([24, 19, 9], [9, 24]), ([25], [25]), ([26, 25], [25, 26]), ([25], [25]), ([27, 28, 25], [25, 27, 28]), ([29, 25], [25, 29]), ([25], [25]), ([31, 25], [25, 31]), ([25], [25]), ([32, 33, 25], [25, 32, 33]), ([34, 25], [25, 34]), ([30, 35, 25, 25], [25, 30, 35]), ([25, 36, 9], [9, 25, 36]), ([9, 37], [9, 37]), ([38, 36, 0, 1, 2, 3, 4, 5, 6, 7, 8, 9, 10, 11, 12, 13, 14, 15, 16, 17, 18, 19, 20, 21, 22, 23, 24, 25, 26, 27, 28, 29, 30, 31, 32, 33, 34, 35, 36, 37, 38], [38])])
def reelkeeperlaw13_DriveWrites.B11 : List Nat := [0, 1, 3, 7, 15, 7, 39, 127, 255, 511, 1023, 2047, 4095, 8191, 8191, 24575, 57343, 131071, 262143, 524287, 1048575, 1048575, 3145727, 8388607, 16777215, 33554431, 67108863, 134217727, 67108863, 536870911, 1073741823, 67108863, 2214592511, 67108863, 15099494399, 32279363583, 68719476735, 137438953471, 274877906943, 549755813887]
theorem reelkeeperlaw13_DriveWrites.tab11 : rtab .any (opsOf Try.f4 11) = reelkeeperlaw13_DriveWrites.T11 := by kernel_rfl
theorem reelkeeperlaw13_DriveWrites.bits11 : waitsOk reelkeeperlaw13_DriveWrites.T11.2 reelkeeperlaw13_DriveWrites.B11 = true := by kernel_rfl
set_option maxHeartbeats 8000000 in
set_option maxRecDepth 100000 in
theorem reelkeeperlaw13_DriveWrites.calls (k : Nat) (A0_0 : Option Addr) (c0_0 : Nat) (l0_0 : List (S41)) (a0_1 : Int) (a0_2 : Int) (A1 : Option Addr) (c1 : Nat) (l1 : List Int) (a2 : Int) (r : Bool) (w : World) (hr0_0 : Kd.C k41 w A0_0 l0_0.length l0_0) (hc0_0 : l0_0.length ≤ c0_0) (hr1 : Kd.C (Kd.int .u8) w A1 l1.length l1) (hc1 : l1.length ≤ c1) (h : reelkeeperlaw13_DriveWrites.f k l0_0 a0_1 a0_2 l1 a2 = some r) :
  Calls Try.prog 4 #[.agg #[.slice A0_0 l0_0.length c0_0, .int .i64 a0_1, .int .i64 a0_2], .slice A1 l1.length c1, .int .i64 a2] w fun e w' => e = .returned (.bool r) ∧ Below w.heap.size w w' := by
 have hu24 := Try.underlying24; have hu41 := Try.underlying41; have HR0_0 := zA hr0_0; have HC0_0 := zA hc0_0; clear hr0_0 hc0_0; have HR1 := zA hr1; have HC1 := zA hc1; clear hr1 hc1; have HB := zA (Below.refl w.heap.size w); have H : ((reelkeeperlaw13_awake.f).bind fun t478 => ((reelkeeperlaw13_Few.f k l0_0 a0_1 a0_2).bind fun t479 => (if t478 = true then (if t479 = true then (if (l1.length : Int) > 12000 then (reelkeeperlaw13_DriveWrites.j0 k l1 a2 t478 true l0_0 a0_1 a0_2) else ((drive_May.f l0_0 a0_1 a0_2).bind fun t480 => (reelkeeperlaw13_DriveWrites.j0 k l1 a2 t478 (!t480) l0_0 a0_1 a0_2))) else (reelkeeperlaw13_DriveWrites.j0 k l1 a2 t478 true l0_0 a0_1 a0_2)) else (reelkeeperlaw13_DriveWrites.j0 k l1 a2 t478 true l0_0 a0_1 a0_2)))) = some r := h; clear h; replace H := Option.bind_eq_some_iff.mp H; obtain ⟨t478, A40, H⟩ := H; replace H : ((reelkeeperlaw13_Few.f k l0_0 a0_1 a0_2).bind fun t479 => (if t478 = true then (if t479 = true then (if (l1.length : Int) > 12000 then (reelkeeperlaw13_DriveWrites.j0 k l1 a2 t478 true l0_0 a0_1 a0_2) else ((drive_May.f l0_0 a0_1 a0_2).bind fun t480 => (reelkeeperlaw13_DriveWrites.j0 k l1 a2 t478 (!t480) l0_0 a0_1 a0_2))) else (reelkeeperlaw13_DriveWrites.j0 k l1 a2 t478 true l0_0 a0_1 a0_2)) else (reelkeeperlaw13_DriveWrites.j0 k l1 a2 t478 true l0_0 a0_1 a0_2))) = some r := H; have A4 := zA A40; clear A40; replace H := Option.bind_eq_some_iff.mp H; obtain ⟨t479, A50, H⟩ := H; replace H : (if t478 = true then (if t479 = true then (if (l1.length : Int) > 12000 then (reelkeeperlaw13_DriveWrites.j0 k l1 a2 t478 true l0_0 a0_1 a0_2) else ((drive_May.f l0_0 a0_1 a0_2).bind fun t480 => (reelkeeperlaw13_DriveWrites.j0 k l1 a2 t478 (!t480) l0_0 a0_1 a0_2))) else (reelkeeperlaw13_DriveWrites.j0 k l1 a2 t478 true l0_0 a0_1 a0_2)) else (reelkeeperlaw13_DriveWrites.j0 k l1 a2 t478 true l0_0 a0_1 a0_2)) = some r := H; have A5 := zA A50; clear A50; have HC6 := zA H; clear H
 go_enter Try.func4, Try.ntmps4
 go_upto_region 3 with (first | ((with_reducible refine gate_dst (N := 3) rfl ?_); (try (refine gate_guard (by rfl) ?_; dsimp only)); refine box_event ?hg (N := 3) ?hd (cs := #[.slice A0_0 l0_0.length c0_0, .int .i64 a0_1, .int .i64 a0_2]) (t := 24) ?hr ?_; (case hd => rfl); (case hg => rfl); (case hr => first | (go_simp; done) | (go_simp; rfl)); intro gb477 hg w7 hbox hb; have n0_ := zA (below_step (by repeat (first | (with_reducible first | exact HB.out | apply bL | apply bP | apply bD) | exact HB.out)) hb); have n1_ := zA (hbox); have n2_ := zA ((by rw [hg]; exact (below_size (by repeat (first | (with_reducible first | exact HB.out | apply bL | apply bP | apply bD) | exact HB.out))) : w.heap.size ≤ gb477)); have n3_ := zA ((by rw [hg]; exact (below_size (by repeat (first | (with_reducible first | exact HB.out | apply bL | apply bP | apply bD) | exact HB.out))) : w.heap.size ≤ gb477)); clear HB; have HB := n0_; have BK477 := n1_; have GW477 := n2_; have GE477 := n3_; clear n0_ n1_ n2_ n3_; clear hb hbox hg) | ((with_reducible refine gate_callee (f := 9) rfl ?_); refine goesL_ (some 13) rfl rfl Try.func9 (by kernel_rfl) rfl #[] rfl (by (try simp only [List.map_toArray, List.map_cons, List.map_nil]); first | done | rfl | (simp only [List.length_drop, List.length_take]; rfl)) ?_; (with_reducible refine (reelkeeperlaw13_awake.calls  t478 _ A4.out).mono ?_); rintro e w8 ⟨rfl, hb⟩; refine ⟨_, rfl, ?_⟩; have n0_ := zA (bK BK477.out hb); have n1_ := zA (below_step (by repeat (first | (with_reducible first | exact HB.out | apply bL | apply bP | apply bD | refine bS ?_ GE477.out) | exact HB.out)) hb); clear BK477; clear HB; have BK477 := n0_; have HB := n1_; clear n0_ n1_; (try clear hb); (try clear hb2); (try clear hk); (try clear hi); have hcz9_0 : w8.cell? ⟨gb477, 0, none⟩ = some (.slice A0_0 l0_0.length c0_0) := (blk_cell BK477.out 0).trans rfl; have hcz9_1 : w8.cell? ⟨gb477, 1, none⟩ = some (.int .i64 a0_1) := (blk_cell BK477.out 1).trans rfl; have hcz9_2 : w8.cell? ⟨gb477, 2, none⟩ = some (.int .i64 a0_2) := (blk_cell BK477.out 2).trans rfl; have hfz9_0 := blk_frozen BK477.out 0; have hfz9_1 := blk_frozen BK477.out 1; have hfz9_2 := blk_frozen BK477.out 2) | ((with_reducible refine gate_callee (f := 10) rfl ?_); refine goesL_ (some 15) rfl rfl Try.func10 (by kernel_rfl) rfl #[.agg #[.slice A0_0 l0_0.length c0_0, .int .i64 a0_1, .int .i64 a0_2]] rfl (by (try simp only [List.map_toArray, List.map_cons, List.map_nil]); first | done | rfl | (simp only [List.length_drop, List.length_take]; rfl)) ?_; (with_reducible refine (reelkeeperlaw13_Few.calls k _ _ l0_0 a0_1 a0_2 t479 _ ?side1 ?side2 A5.out).mono ?_); (case side1 => repeat (first | exact (Kd.C_below HR0_0.out HB.out) | (with_reducible refine Kd.C_alloc ?_ _) | (with_reducible refine Kd.C_drewN ?_ _) | (with_reducible refine Kd.C_drew ?_))); (case side2 => exact HC0_0.out); rintro e w10 ⟨rfl, hb⟩; refine ⟨_, rfl, ?_⟩; have n0_ := zA (bK BK477.out hb); have n1_ := zA (below_step (by repeat (first | (with_reducible first | exact HB.out | apply bL | apply bP | apply bD | refine bS ?_ GE477.out) | exact HB.out)) hb); clear BK477; clear HB; have BK477 := n0_; have HB := n1_; clear n0_ n1_; (try clear hb); (try clear hb2); (try clear hk); (try clear hi)))
 (try simp only [Act.put, sA, sB, sC])
 go_cut [31] (fun v31 wc => ∃ (kq : Nat) (x31_5 : Bool), v31 = .bool x31_5 ∧ Aside0 (reelkeeperlaw13_DriveWrites.j0 kq l1 a2 t478 x31_5 l0_0 a0_1 a0_2 = some r) ∧ Aside0 (kq ≤ k) ∧ Aside0 (wc.heap[gb477]? = some (.cells #[(.slice A0_0 l0_0.length c0_0), .int .i64 a0_1, .int .i64 a0_2] 24 (0, 0))) ∧ Aside0 (Below w.heap.size w wc))
 case first =>
  have H := HC6.out; clear HC6
  by_cases c11 : t478 = true
  ·subst c11
   have H1 : (if t479 = true then (if (l1.length : Int) > 12000 then (reelkeeperlaw13_DriveWrites.j0 k l1 a2 true true l0_0 a0_1 a0_2) else ((drive_May.f l0_0 a0_1 a0_2).bind fun t480 => (reelkeeperlaw13_DriveWrites.j0 k l1 a2 true (!t480) l0_0 a0_1 a0_2))) else (reelkeeperlaw13_DriveWrites.j0 k l1 a2 true true l0_0 a0_1 a0_2)) = some r := by rw [if_pos rfl] at H; exact H
   clear H; have H := H1; clear H1
   by_cases c12 : t479 = true
   ·subst c12
    have H1 : (if (l1.length : Int) > 12000 then (reelkeeperlaw13_DriveWrites.j0 k l1 a2 true true l0_0 a0_1 a0_2) else ((drive_May.f l0_0 a0_1 a0_2).bind fun t480 => (reelkeeperlaw13_DriveWrites.j0 k l1 a2 true (!t480) l0_0 a0_1 a0_2))) = some r := by rw [if_pos rfl] at H; exact H
    clear H; have H := H1; clear H1
    by_cases c13 : (l1.length : Int) > 12000
    ·rw [if_pos c13] at H
     have c13b0 : decide (12000 < (l1.length : Int)) = true := decide_eq_true c13; have c13b1 : decide (12000 < l1.length) = true := decide_eq_true (by omega); clear c13
     (first | rw [c13b0] | (simp only [i64_w, i32_w]; rw [c13b0]) | skip)
     have H' := zA H; clear H
     go_wp2
     go_meet
     case rel => exact ⟨_, (true), (by first | rfl | (simp; done) | (simp [*]; done)), H', ⟨by first | omega | exact Nat.le_refl _⟩, ⟨by exact BK477.out⟩, ⟨by repeat (first | (with_reducible first | exact HB.out | apply bL | apply bP | apply bD | refine bS ?_ GE477.out) | exact HB.out)⟩⟩
    ·rw [if_neg c13] at H
     have c13b0 : decide (12000 < (l1.length : Int)) = false := decide_eq_false c13; have c13b1 : decide (12000 < l1.length) = false := decide_eq_false (by omega); clear c13
     (first | rw [c13b0] | (simp only [i64_w, i32_w]; rw [c13b0]) | skip)
     replace H := Option.bind_eq_some_iff.mp H; obtain ⟨t480, A140, H⟩ := H; replace H : (reelkeeperlaw13_DriveWrites.j0 k l1 a2 true (!t480) l0_0 a0_1 a0_2) = some r := H; have A14 := zA A140; clear A140; have H' := zA H; clear H; have hcz15_0 : w10.cell? ⟨gb477, 0, none⟩ = some (.slice A0_0 l0_0.length c0_0) := (blk_cell BK477.out 0).trans rfl; have hcz15_1 : w10.cell? ⟨gb477, 1, none⟩ = some (.int .i64 a0_1) := (blk_cell BK477.out 1).trans rfl; have hcz15_2 : w10.cell? ⟨gb477, 2, none⟩ = some (.int .i64 a0_2) := (blk_cell BK477.out 2).trans rfl; have hfz15_0 := blk_frozen BK477.out 0; have hfz15_1 := blk_frozen BK477.out 1; have hfz15_2 := blk_frozen BK477.out 2
     go_wp2_with (first | (go_at_call 27; (with_reducible refine (drive_May.calls _ _ l0_0 a0_1 a0_2 t480 _ ?side1 ?side2 A14.out).mono ?_); (case side1 => repeat (first | exact (Kd.C_below HR0_0.out HB.out) | (with_reducible refine Kd.C_alloc ?_ _) | (with_reducible refine Kd.C_drewN ?_ _) | (with_reducible refine Kd.C_drew ?_))); (case side2 => exact HC0_0.out); rintro e w16 ⟨rfl, hb⟩; have n0_ := zA (bK BK477.out hb); have n1_ := zA (below_step (by repeat (first | (with_reducible first | exact HB.out | apply bL | apply bP | apply bD | refine bS ?_ GE477.out) | exact HB.out)) hb); clear BK477; clear HB; have BK477 := n0_; have HB := n1_; clear n0_ n1_; (try clear hb); (try clear hb2); (try clear hk); (try clear hi)))
     go_meet
     case rel => exact ⟨_, (!t480), (by first | rfl | (simp; done) | (simp [*]; done)), H', ⟨by first | omega | exact Nat.le_refl _⟩, ⟨by exact BK477.out⟩, ⟨by repeat (first | (with_reducible first | exact HB.out | apply bL | apply bP | apply bD | refine bS ?_ GE477.out) | exact HB.out)⟩⟩
   ·replace c12 := Bool.eq_false_iff.mpr c12
    subst c12
    have H1 : (reelkeeperlaw13_DriveWrites.j0 k l1 a2 true true l0_0 a0_1 a0_2) = some r := by rw [if_neg (show ¬ (false = true) by decide)] at H; exact H
    clear H; have H := H1; clear H1; have H' := zA H; clear H
    go_wp2
    go_meet
    case rel => exact ⟨_, (true), (by first | rfl | (simp; done) | (simp [*]; done)), H', ⟨by first | omega | exact Nat.le_refl _⟩, ⟨by exact BK477.out⟩, ⟨by repeat (first | (with_reducible first | exact HB.out | apply bL | apply bP | apply bD | refine bS ?_ GE477.out) | exact HB.out)⟩⟩
  ·replace c11 := Bool.eq_false_iff.mpr c11
   subst c11
   have H1 : (reelkeeperlaw13_DriveWrites.j0 k l1 a2 false true l0_0 a0_1 a0_2) = some r := by rw [if_neg (show ¬ (false = true) by decide)] at H; exact H
   clear H; have H := H1; clear H1; have H' := zA H; clear H
   go_wp2
   go_meet
   case rel => exact ⟨_, (true), (by first | rfl | (simp; done) | (simp [*]; done)), H', ⟨by first | omega | exact Nat.le_refl _⟩, ⟨by exact BK477.out⟩, ⟨by repeat (first | (with_reducible first | exact HB.out | apply bL | apply bP | apply bD | refine bS ?_ GE477.out) | exact HB.out)⟩⟩
 case rest =>
  clear HC6
  try clear c1
  try clear p2
  try clear c4
  try clear c9
  try clear c10
  try clear c11
  try clear c12
  try clear c13
  try clear c13b0
  try clear c13b1
  try clear hcz15_0
  try clear hcz15_1
  try clear hcz15_2
  try clear hcz9_0
  try clear hcz9_1
  try clear hcz9_2
  try clear hfz15_0
  try clear hfz15_1
  try clear hfz15_2
  try clear hfz9_0
  try clear hfz9_1
  try clear hfz9_2
  obtain ⟨kq, x31_5, rfl, HA, HJ5, BK477, HB⟩ := hcut
  cases kq with
  | zero => exact absurd HA.out (by simp [reelkeeperlaw13_DriveWrites.j0])
  | succ kj5 =>
   have H := HA.out; clear HA
   simp only [reelkeeperlaw13_DriveWrites.j0] at H
   by_cases c17 : x31_5 = true
   ·subst c17
    have H1 : (some t478) = some r := by rw [if_pos rfl] at H; exact H
    clear H; have H := H1; clear H1; obtain rfl := Option.some.inj H
    go_wp2
    go_ret
    exact ⟨by first | rfl | (simp [errW_none, errW_some] <;> rfl) | (simp [*, errW_none, errW_some] <;> rfl), by repeat (first | (with_reducible first | exact HB.out | apply bL | apply bP | apply bD | refine bS ?_ GE477.out) | exact HB.out)⟩
   ·replace c17 := Bool.eq_false_iff.mpr c17
    subst c17
    have H1 : ((drive_Write.f l0_0 a0_1 a0_2 l1).bind fun bt481 => (if bt481.2.2.2 = 0 then ((drive_May.f bt481.1 bt481.2.1 bt481.2.2.1).bind fun t489 => (if t489 = true then (if a0_1 < 0 then (reelkeeperlaw13_DriveWrites.j1 kj5 l1 a2 true l0_0 a0_1 a0_2 bt481.1 bt481.2.1 bt481.2.2.1) else (if bt481.2.1 = a0_1 then (if bt481.2.2.1 = (wrap64 (a0_2 + 1)) then (if (bt481.1.length : Int) = (l0_0.length : Int) then (if 0 ≤ bt481.2.1 then (if bt481.2.1 < (bt481.1.length : Int) then (reelkeeperlaw13_DriveWrites.j1 kj5 l1 a2 ((((rd_T41 bt481.1 bt481.2.1).f1).length : Int) != bt481.2.2.1) l0_0 a0_1 a0_2 bt481.1 bt481.2.1 bt481.2.2.1) else (none)) else (none)) else (reelkeeperlaw13_DriveWrites.j1 kj5 l1 a2 true l0_0 a0_1 a0_2 bt481.1 bt481.2.1 bt481.2.2.1)) else (reelkeeperlaw13_DriveWrites.j1 kj5 l1 a2 true l0_0 a0_1 a0_2 bt481.1 bt481.2.1 bt481.2.2.1)) else (reelkeeperlaw13_DriveWrites.j1 kj5 l1 a2 true l0_0 a0_1 a0_2 bt481.1 bt481.2.1 bt481.2.2.1))) else (reelkeeperlaw13_DriveWrites.j1 kj5 l1 a2 true l0_0 a0_1 a0_2 bt481.1 bt481.2.1 bt481.2.2.1))) else ((drive_Same.f bt481.1 bt481.2.1 bt481.2.2.1 l0_0 a0_1 a0_2).bind fun t488 => (some t488)))) = some r := by rw [if_neg (show ¬ (false = true) by decide)] at H; exact H
    clear H; have H := H1; clear H1; replace H := Option.bind_eq_some_iff.mp H; obtain ⟨⟨t481, t484, t485, t486⟩, A180, H⟩ := H; replace H : (if t486 = 0 then ((drive_May.f t481 t484 t485).bind fun t489 => (if t489 = true then (if a0_1 < 0 then (reelkeeperlaw13_DriveWrites.j1 kj5 l1 a2 true l0_0 a0_1 a0_2 t481 t484 t485) else (if t484 = a0_1 then (if t485 = (wrap64 (a0_2 + 1)) then (if (t481.length : Int) = (l0_0.length : Int) then (if 0 ≤ t484 then (if t484 < (t481.length : Int) then (reelkeeperlaw13_DriveWrites.j1 kj5 l1 a2 ((((rd_T41 t481 t484).f1).length : Int) != t485) l0_0 a0_1 a0_2 t481 t484 t485) else (none)) else (none)) else (reelkeeperlaw13_DriveWrites.j1 kj5 l1 a2 true l0_0 a0_1 a0_2 t481 t484 t485)) else (reelkeeperlaw13_DriveWrites.j1 kj5 l1 a2 true l0_0 a0_1 a0_2 t481 t484 t485)) else (reelkeeperlaw13_DriveWrites.j1 kj5 l1 a2 true l0_0 a0_1 a0_2 t481 t484 t485))) else (reelkeeperlaw13_DriveWrites.j1 kj5 l1 a2 true l0_0 a0_1 a0_2 t481 t484 t485))) else ((drive_Same.f t481 t484 t485 l0_0 a0_1 a0_2).bind fun t488 => (some t488))) = some r := H; have A18 := zA A180; clear A180
    by_cases c19 : t486 = 0
    ·as_aux_lemma =>
     rw [if_pos c19] at H
     have c19b0 : (t486 == 0) = true := beq_iff_eq.mpr c19; have c19b1 : (t486 != 0) = false := bne_eq_false_iff_eq.mpr c19; clear c19; have HC20 := zA H; clear H; have hcz21_0 : wc.cell? ⟨gb477, 0, none⟩ = some (.slice A0_0 l0_0.length c0_0) := (blk_cell BK477.out 0).trans rfl; have hcz21_1 : wc.cell? ⟨gb477, 1, none⟩ = some (.int .i64 a0_1) := (blk_cell BK477.out 1).trans rfl; have hcz21_2 : wc.cell? ⟨gb477, 2, none⟩ = some (.int .i64 a0_2) := (blk_cell BK477.out 2).trans rfl; have hfz21_0 := blk_frozen BK477.out 0; have hfz21_1 := blk_frozen BK477.out 1; have hfz21_2 := blk_frozen BK477.out 2
     go_upto_region 8 with (first | ((with_reducible refine gate_callee (f := 17) rfl ?_); refine goesL_ (some 36) rfl rfl Try.func17 (by kernel_rfl) rfl #[.agg #[.slice A0_0 l0_0.length c0_0, .int .i64 a0_1, .int .i64 a0_2], .slice A1 l1.length c1] rfl (by (try simp only [List.map_toArray, List.map_cons, List.map_nil]); first | done | rfl | (simp only [List.length_drop, List.length_take]; rfl)) ?_; (with_reducible refine (drive_Write.calls _ _ l0_0 a0_1 a0_2 _ _ l1 t481 t484 t485 t486 _ ?side1 ?side2 ?side3 ?side4 A18.out).mono ?_); (case side1 => repeat (first | exact (Kd.C_below HR0_0.out HB.out) | (with_reducible refine Kd.C_alloc ?_ _) | (with_reducible refine Kd.C_drewN ?_ _) | (with_reducible refine Kd.C_drew ?_))); (case side2 => exact HC0_0.out); (case side3 => repeat (first | exact (Kd.C_below HR1.out HB.out) | (with_reducible refine Kd.C_alloc ?_ _) | (with_reducible refine Kd.C_drewN ?_ _) | (with_reducible refine Kd.C_drew ?_))); (case side4 => exact HC1.out); rintro e w22 ⟨v482, rfl, ho0, hb⟩; refine ⟨_, rfl, ?_⟩; have n0_ := zA (Kd.V_lower (Kd.V_mono (ok' := fun k_ => k_ ≠ gb477) ho0 (fun k_ hk_ => (Kd.freshB BK477.out k_ hk_))) (below_size (by repeat (first | (with_reducible first | exact HB.out | apply bL | apply bP | apply bD | refine bS ?_ GE477.out) | exact HB.out)))); have n1_ := zA (bK BK477.out hb); have n2_ := zA (below_step (by repeat (first | (with_reducible first | exact HB.out | apply bL | apply bP | apply bD | refine bS ?_ GE477.out) | exact HB.out)) hb); clear BK477; clear HB; have HO483 := n0_; have BK477 := n1_; have HB := n2_; clear n0_ n1_ n2_; (try clear hb); (try clear hb2); (try clear hk); (try clear hi); (try clear ho0)) | ((with_reducible refine gate_dst (N := 9) rfl ?_); (try (refine gate_guard (by rfl) ?_; dsimp only)); refine box_event ?hg (N := 9) ?hd (cs := #[.slice none 0 0, .int .i64 0, .int .i64 0]) (t := 24) ?hr ?_; (case hd => rfl); (case hg => rfl); (case hr => first | (go_simp; done) | (go_simp; rfl)); intro gb487 hg w23 hbox hb; have n0_ := zA (Kd.V_below (Kd.V_elderB HO483.out gb487 (Nat.le_of_eq hg.symm)) hb); have n1_ := zA (bK BK477.out hb); have n2_ := zA (below_step (by repeat (first | (with_reducible first | exact HB.out | apply bL | apply bP | apply bD | refine bS ?_ GE477.out) | exact HB.out)) hb); have n3_ := zA (hbox); have n4_ := zA ((by rw [hg]; exact (below_size (by repeat (first | (with_reducible first | exact HB.out | apply bL | apply bP | apply bD | refine bS ?_ GE477.out) | exact HB.out))) : w.heap.size ≤ gb487)); have n5_ := zA ((by rw [hg]; exact (below_size (by repeat (first | (with_reducible first | exact HB.out | apply bL | apply bP | apply bD | refine bS ?_ GE477.out) | exact HB.out))) : w.heap.size ≤ gb487)); have n6_ := zA ((by rw [hg]; exact Nat.ne_of_lt (blk_lt BK477.out) : gb477 ≠ gb487)); have n7_ := zA ((by rw [hg]; exact Nat.ne_of_gt (blk_lt BK477.out) : gb487 ≠ gb477)); clear HO483; clear BK477; clear HB; have HO483 := n0_; have BK477 := n1_; have HB := n2_; have BK487 := n3_; have GW487 := n4_; have GE487 := n5_; have NB477_487 := n6_; have NB487_477 := n7_; clear n0_ n1_ n2_ n3_ n4_ n5_ n6_ n7_; clear hb hbox hg; obtain ⟨Ao24, co24, eo24⟩ := Kd.V_slice HO483.out; subst eo24; have hnb25 := NB487_477.out; have hnc25 := NB477_487.out; have hcz26_0 : w23.cell? ⟨gb487, 0, none⟩ = some (.slice none 0 0) := (blk_cell BK487.out 0).trans rfl; have hcz26_1 : w23.cell? ⟨gb487, 1, none⟩ = some (.int .i64 0) := (blk_cell BK487.out 1).trans rfl; have hcz26_2 : w23.cell? ⟨gb487, 2, none⟩ = some (.int .i64 0) := (blk_cell BK487.out 2).trans rfl; have hfz26_0 := blk_frozen BK487.out 0; have hfz26_1 := blk_frozen BK487.out 1; have hfz26_2 := blk_frozen BK487.out 2))
     (try simp only [Act.put, sA, sB, sC])
     go_cut [88] (fun v88 wc => ∃ (kq : Nat) (x88_19 : Bool), v88 = .bool x88_19 ∧ Aside0 (reelkeeperlaw13_DriveWrites.j1 kq l1 a2 x88_19 l0_0 a0_1 a0_2 t481 t484 t485 = some r) ∧ Aside0 (kq ≤ kj5) ∧ Aside0 (Kd.V k41 41 wc w.heap.size (fun k_ => k_ ≠ gb477 ∧ k_ ≠ gb487) (.slice Ao24 t481.length co24) t481) ∧ Aside0 (wc.heap[gb477]? = some (.cells #[(.slice A0_0 l0_0.length c0_0), .int .i64 a0_1, .int .i64 a0_2] 24 (0, 0))) ∧ Aside0 (wc.heap[gb487]? = some (.cells #[(.slice Ao24 t481.length co24), .int .i64 t484, .int .i64 t485] 24 (0, 0))) ∧ Aside0 (Below w.heap.size w wc))
     case first =>
      have H := HC20.out; clear HC20; replace H := Option.bind_eq_some_iff.mp H; obtain ⟨t489, A270, H⟩ := H; replace H : (if t489 = true then (if a0_1 < 0 then (reelkeeperlaw13_DriveWrites.j1 kj5 l1 a2 true l0_0 a0_1 a0_2 t481 t484 t485) else (if t484 = a0_1 then (if t485 = (wrap64 (a0_2 + 1)) then (if (t481.length : Int) = (l0_0.length : Int) then (if 0 ≤ t484 then (if t484 < (t481.length : Int) then (reelkeeperlaw13_DriveWrites.j1 kj5 l1 a2 ((((rd_T41 t481 t484).f1).length : Int) != t485) l0_0 a0_1 a0_2 t481 t484 t485) else (none)) else (none)) else (reelkeeperlaw13_DriveWrites.j1 kj5 l1 a2 true l0_0 a0_1 a0_2 t481 t484 t485)) else (reelkeeperlaw13_DriveWrites.j1 kj5 l1 a2 true l0_0 a0_1 a0_2 t481 t484 t485)) else (reelkeeperlaw13_DriveWrites.j1 kj5 l1 a2 true l0_0 a0_1 a0_2 t481 t484 t485))) else (reelkeeperlaw13_DriveWrites.j1 kj5 l1 a2 true l0_0 a0_1 a0_2 t481 t484 t485)) = some r := H; have A27 := zA A270; clear A270
      by_cases c28 : t489 = true
      ·subst c28
       have H1 : (if a0_1 < 0 then (reelkeeperlaw13_DriveWrites.j1 kj5 l1 a2 true l0_0 a0_1 a0_2 t481 t484 t485) else (if t484 = a0_1 then (if t485 = (wrap64 (a0_2 + 1)) then (if (t481.length : Int) = (l0_0.length : Int) then (if 0 ≤ t484 then (if t484 < (t481.length : Int) then (reelkeeperlaw13_DriveWrites.j1 kj5 l1 a2 ((((rd_T41 t481 t484).f1).length : Int) != t485) l0_0 a0_1 a0_2 t481 t484 t485) else (none)) else (none)) else (reelkeeperlaw13_DriveWrites.j1 kj5 l1 a2 true l0_0 a0_1 a0_2 t481 t484 t485)) else (reelkeeperlaw13_DriveWrites.j1 kj5 l1 a2 true l0_0 a0_1 a0_2 t481 t484 t485)) else (reelkeeperlaw13_DriveWrites.j1 kj5 l1 a2 true l0_0 a0_1 a0_2 t481 t484 t485))) = some r := by rw [if_pos rfl] at H; exact H
       clear H; have H := H1; clear H1
       by_cases c29 : a0_1 < 0
       ·as_aux_lemma =>
        rw [if_pos c29] at H
        have c29b0 : decide (a0_1 < 0) = true := decide_eq_true c29; clear c29
        (first | rw [c29b0] | (simp only [i64_w, i32_w]; rw [c29b0]) | skip)
        have H' := zA H; clear H
        try go_wp2
        have n0_ : Aside0 (Kd.V k41 41 (((w23.setCell ⟨gb487, 0, none⟩ (.slice Ao24 t481.length co24)).setCell ⟨gb487, 1, none⟩ (.int .i64 t484)).setCell ⟨gb487, 2, none⟩ (.int .i64 t485)) w.heap.size (fun k_ => k_ ≠ gb477 ∧ k_ ≠ gb487) (.slice Ao24 t481.length co24) t481) := ⟨by exact Kd.V_mono (Kd.V_far (p := ⟨gb487, 2, none⟩) (Kd.V_far (p := ⟨gb487, 1, none⟩) (Kd.V_far (p := ⟨gb487, 0, none⟩) (Kd.V_mono HO483.out (fun k_ hk => (⟨hk, hk.2⟩ : _ ∧ k_ ≠ gb487))) (fun _ hk => hk.2) (.slice Ao24 t481.length co24)) (fun _ hk => hk.2) (.int .i64 t484)) (fun _ hk => hk.2) (.int .i64 t485)) (fun _ hk => ⟨hk.1.1, hk.1.2⟩)⟩; have n1_ : Aside0 ((((w23.setCell ⟨gb487, 0, none⟩ (.slice Ao24 t481.length co24)).setCell ⟨gb487, 1, none⟩ (.int .i64 t484)).setCell ⟨gb487, 2, none⟩ (.int .i64 t485)).heap[gb477]? = some (.cells #[.slice A0_0 l0_0.length c0_0, .int .i64 a0_1, .int .i64 a0_2] 24 (0, 0))) := ⟨by refine blk_far ?_ NB477_487.out _; refine blk_far ?_ NB477_487.out _; refine blk_far ?_ NB477_487.out _; exact BK477.out⟩; have n2_ : Aside0 ((((w23.setCell ⟨gb487, 0, none⟩ (.slice Ao24 t481.length co24)).setCell ⟨gb487, 1, none⟩ (.int .i64 t484)).setCell ⟨gb487, 2, none⟩ (.int .i64 t485)).heap[gb487]? = some (.cells #[.slice Ao24 t481.length co24, .int .i64 t484, .int .i64 t485] 24 (0, 0))) := ⟨by refine blk_put (cs := #[.slice Ao24 t481.length co24, .int .i64 t484, .int .i64 0]) ?_ 2 _ rfl; refine blk_put (cs := #[.slice Ao24 t481.length co24, .int .i64 0, .int .i64 0]) ?_ 1 _ rfl; refine blk_put (cs := #[.slice none 0 0, .int .i64 0, .int .i64 0]) ?_ 0 _ rfl; exact BK487.out⟩; have n3_ : Aside0 (Below w.heap.size w (((w23.setCell ⟨gb487, 0, none⟩ (.slice Ao24 t481.length co24)).setCell ⟨gb487, 1, none⟩ (.int .i64 t484)).setCell ⟨gb487, 2, none⟩ (.int .i64 t485))) := ⟨by repeat (first | (with_reducible first | exact HB.out | apply bL | apply bP | apply bD | refine bS ?_ GE477.out | refine bS ?_ GE487.out) | exact HB.out)⟩
        (try clear HO483)
        (try clear BK477)
        (try clear BK487)
        (try clear HB)
        generalize (((w23.setCell ⟨gb487, 0, none⟩ (.slice Ao24 t481.length co24)).setCell ⟨gb487, 1, none⟩ (.int .i64 t484)).setCell ⟨gb487, 2, none⟩ (.int .i64 t485)) = w30 at n0_ n1_ n2_ n3_ ⊢
        have HO483 := n0_; have BK477 := n1_; have BK487 := n2_; have HB := n3_; clear n0_ n1_ n2_ n3_; have n0_ := zA (Kd.V_drew HO483.out); have n1_ := zA (bW BK477.out); have n2_ := zA (bW BK487.out); have n3_ := zA (bD HB.out); clear HO483; clear BK477; clear BK487; clear HB; have HO483 := n0_; have BK477 := n1_; have BK487 := n2_; have HB := n3_; clear n0_ n1_ n2_ n3_; refine start_ (n := 45) (S := fun w' => w'.cell? ⟨gb487, 0, none⟩ = some (.slice Ao24 t481.length co24) ∧ w'.cell? ⟨gb487, 1, none⟩ = some (.int .i64 t484) ∧ w'.cell? ⟨gb487, 2, none⟩ = some (.int .i64 t485) ∧ w'.cell? ⟨gb477, 0, none⟩ = some (.slice A0_0 l0_0.length c0_0) ∧ w'.cell? ⟨gb477, 1, none⟩ = some (.int .i64 a0_1) ∧ w'.cell? ⟨gb477, 2, none⟩ = some (.int .i64 a0_2)) (ds := []) (bs 45 0) (by kernel_rfl) rfl rfl ⟨(blk_cell BK487.out 0).trans rfl, (blk_cell BK487.out 1).trans rfl, (blk_cell BK487.out 2).trans rfl, (blk_cell BK477.out 0).trans rfl, (blk_cell BK477.out 1).trans rfl, (blk_cell BK477.out 2).trans rfl⟩ (fun hHeld => ?_); refine with_tabW reelkeeperlaw13_DriveWrites.tab8 reelkeeperlaw13_DriveWrites.bits8 (fun HT_ HW_ => ?_)
        generalize w30.drew = w31 at HO483 BK477 BK487 HB hHeld ⊢
        refine take_ (i := 0) (N := some 44) (v := ?_) (a' := ?_) (bs 45 1) rfl rfl (take_ofW HT_.out HW_.out (by kernel_rfl)) (fun _ _ _ h => h) (Or.inl ⟨by rfl, ?_⟩) hHeld ?_ ?_; rotate_left
        ·rintro w' ⟨s0, s1, s2, s3, s4, s5⟩
         go_simp
         with_reducible rfl
        rotate_left
        ·simp only [Act.put, sA, sB, sC, i64_w, i32_w]
         rfl
        refine one_ (i := 1) (N := some 45) (bs 45 3) rfl rfl (one_of HT_.out (by kernel_rfl)) (by decide) (fun K hK => ?_); refine goes_ Try.func27 (by kernel_rfl) rfl #[.agg #[.slice Ao24 t481.length co24, .int .i64 t484, .int .i64 t485]] (by rfl) rfl rfl (by (try simp only [List.map_toArray, List.map_cons, List.map_nil]); first | done | rfl | (simp only [List.length_drop, List.length_take]; rfl)) ?_
        with_reducible refine (drive_May.calls _ _ t481 t484 t485 true _ ?side1 ?side2 A27.out).mono ?_
        (case side1 => repeat (first | exact (Kd.V_reads' HO483.out).2.2 | (with_reducible refine Kd.C_alloc ?_ _) | (with_reducible refine Kd.C_drewN ?_ _) | (with_reducible refine Kd.C_drew ?_)))
        (case side2 => exact (Kd.V_reads' HO483.out).2.1)
        rintro e w32 ⟨rfl, hb⟩
        refine ⟨_, rfl, ?_⟩; have n0_ := zA (Kd.V_below HO483.out hb); have n1_ := zA (bK BK477.out hb); have n2_ := zA (bK BK487.out hb); have n3_ := zA (below_step (by repeat (first | (with_reducible first | exact HB.out | apply bL | apply bP | apply bD | refine bS ?_ GE477.out | refine bS ?_ GE487.out) | exact HB.out)) hb); clear HO483; clear BK477; clear BK487; clear HB; have HO483 := n0_; have BK477 := n1_; have BK487 := n2_; have HB := n3_; clear n0_ n1_ n2_ n3_
        (try clear hb)
        (try clear hb2)
        (try clear hk)
        (try clear hi)
        refine hK.out _ _ ⟨(blk_cell BK487.out 0).trans rfl, (blk_cell BK487.out 1).trans rfl, (blk_cell BK487.out 2).trans rfl, (blk_cell BK477.out 0).trans rfl, (blk_cell BK477.out 1).trans rfl, (blk_cell BK477.out 2).trans rfl⟩ (fun hHeld => ?_); clear hK K; refine norm_ (a' := ?_) ?_ ?_; rotate_left
        ·show Act.put _ (some 45) _ = _
         simp only [Act.put, sA, sB, sC, i64_w, i32_w]
         rfl
        refine pure_ (i := 2) (N := some 46) (v := ?_) (a' := ?_) (bs 45 7) rfl rfl (any_of HT_.out (by kernel_rfl)) (fun _ _ _ h => h) (Or.inl ⟨by rfl, ?_⟩) ?_ ?_; rotate_left
        ·intro w'
         go_simp
         with_reducible rfl
        rotate_left
        ·simp only [Act.put, sA, sB, sC, i64_w, i32_w]
         rfl
        refine pure_ (i := 3) (N := some 47) (v := ?_) (a' := ?_) (bs 45 15) rfl rfl (any_of HT_.out (by kernel_rfl)) (fun _ _ _ h => h) (Or.inl ⟨by rfl, ?_⟩) ?_ ?_; rotate_left
        ·intro w'
         go_simp
         with_reducible rfl
        rotate_left
        ·simp only [Act.put, sA, sB, sC, i64_w, i32_w]
         rfl
        refine pure_ (i := 4) (N := some 48) (v := ?_) (a' := ?_) (bs 45 31) rfl rfl (any_of HT_.out (by kernel_rfl)) (fun _ _ _ h => h) (Or.inl ⟨by rfl, ?_⟩) ?_ ?_; rotate_left
        ·intro w'
         go_simp
         with_reducible rfl
        rotate_left
        ·simp only [Act.put, sA, sB, sC, i64_w, i32_w]
         rfl
        refine take_ (i := 5) (N := some 49) (v := ?_) (a' := ?_) (bs 45 63) rfl rfl (take_ofW HT_.out HW_.out (by kernel_rfl)) (fun _ _ _ h => h) (Or.inl ⟨by rfl, ?_⟩) hHeld ?_ ?_; rotate_left
        ·rintro w' ⟨s0, s1, s2, s3, s4, s5⟩
         go_simp
         with_reducible rfl
        rotate_left
        ·simp only [Act.put, sA, sB, sC, i64_w, i32_w]
         rfl
        refine pure_ (i := 6) (N := some 50) (v := ?_) (a' := ?_) (bs 45 127) rfl rfl (any_of HT_.out (by kernel_rfl)) (fun _ _ _ h => h) (Or.inl ⟨by rfl, ?_⟩) ?_ ?_; rotate_left
        ·intro w'
         go_simp
         with_reducible rfl
        rotate_left
        ·simp only [Act.put, sA, sB, sC, i64_w, i32_w]
         rfl
        refine pure_ (i := 7) (N := some 51) (v := ?_) (a' := ?_) (bs 45 255) rfl rfl (any_of HT_.out (by kernel_rfl)) (fun _ _ _ h => h) (Or.inl ⟨by rfl, ?_⟩) ?_ ?_; rotate_left
        ·intro w'
         go_simp
         with_reducible rfl
        rotate_left
        ·simp only [Act.put, sA, sB, sC, i64_w, i32_w]
         rfl
        refine pure_ (i := 8) (N := some 52) (v := ?_) (a' := ?_) (bs 45 511) rfl rfl (any_of HT_.out (by kernel_rfl)) (fun _ _ _ h => h) (Or.inl ⟨by rfl, ?_⟩) ?_ ?_; rotate_left
        ·intro w'
         go_simp
         with_reducible rfl
        rotate_left
        ·simp only [Act.put, sA, sB, sC, i64_w, i32_w]
         rfl
        refine pure_ (i := 9) (N := some 53) (v := undef) (a' := ?_) (bs 45 1023) rfl rfl (any_of HT_.out (by kernel_rfl)) (fun _ _ _ h => h) (Or.inr ⟨by rfl, rfl⟩) ?_ ?_; rotate_left
        ·simp only [Act.put, sA, sB, sC, i64_w, i32_w]
         rfl
        refine pure_ (i := 10) (N := some 54) (v := undef) (a' := ?_) (bs 45 2047) rfl rfl (any_of HT_.out (by kernel_rfl)) (fun _ _ _ h => h) (Or.inr ⟨by rfl, rfl⟩) ?_ ?_; rotate_left
        ·simp only [Act.put, sA, sB, sC, i64_w, i32_w]
         rfl
        refine pure_ (i := 11) (N := some 55) (v := undef) (a' := ?_) (bs 45 4095) rfl rfl (any_of HT_.out (by kernel_rfl)) (fun _ _ _ h => h) (Or.inr ⟨by rfl, rfl⟩) ?_ ?_; rotate_left
        ·simp only [Act.put, sA, sB, sC, i64_w, i32_w]
         rfl
        refine pure_ (i := 12) (N := some 56) (v := undef) (a' := ?_) (bs 45 8191) rfl rfl (any_of HT_.out (by kernel_rfl)) (fun _ _ _ h => h) (Or.inr ⟨by rfl, rfl⟩) ?_ ?_; rotate_left
        ·simp only [Act.put, sA, sB, sC, i64_w, i32_w]
         rfl
        refine pure_ (i := 13) (N := some 57) (v := undef) (a' := ?_) (bs 45 16383) rfl rfl (any_of HT_.out (by kernel_rfl)) (fun _ _ _ h => h) (Or.inr ⟨by rfl, rfl⟩) ?_ ?_; rotate_left
        ·simp only [Act.put, sA, sB, sC, i64_w, i32_w]
         rfl
        refine pure_ (i := 14) (N := some 58) (v := ?_) (a' := ?_) (bs 45 32767) rfl rfl (any_of HT_.out (by kernel_rfl)) (fun _ _ _ h => h) (Or.inl ⟨by rfl, ?_⟩) ?_ ?_; rotate_left
        ·intro w'
         go_simp
         with_reducible rfl
        rotate_left
        ·simp only [Act.put, sA, sB, sC, i64_w, i32_w]
         rfl
        refine pure_ (i := 15) (N := some 59) (v := ?_) (a' := ?_) (bs 45 65535) rfl rfl (any_of HT_.out (by kernel_rfl)) (fun _ _ _ h => h) (Or.inl ⟨by rfl, ?_⟩) ?_ ?_; rotate_left
        ·intro w'
         go_simp
         with_reducible rfl
        rotate_left
        ·simp only [Act.put, sA, sB, sC, i64_w, i32_w]
         rfl
        refine pure_ (i := 16) (N := some 60) (v := undef) (a' := ?_) (bs 45 131071) rfl rfl (any_of HT_.out (by kernel_rfl)) (fun _ _ _ h => h) (Or.inr ⟨by rfl, rfl⟩) ?_ ?_; rotate_left
        ·simp only [Act.put, sA, sB, sC, i64_w, i32_w]
         rfl
        refine pure_ (i := 17) (N := some 61) (v := undef) (a' := ?_) (bs 45 262143) rfl rfl (any_of HT_.out (by kernel_rfl)) (fun _ _ _ h => h) (Or.inr ⟨by rfl, rfl⟩) ?_ ?_; rotate_left
        ·simp only [Act.put, sA, sB, sC, i64_w, i32_w]
         rfl
        refine pure_ (i := 18) (N := some 62) (v := undef) (a' := ?_) (bs 45 524287) rfl rfl (any_of HT_.out (by kernel_rfl)) (fun _ _ _ h => h) (Or.inr ⟨by rfl, rfl⟩) ?_ ?_; rotate_left
        ·simp only [Act.put, sA, sB, sC, i64_w, i32_w]
         rfl
        refine pure_ (i := 19) (N := some 63) (v := undef) (a' := ?_) (bs 45 1048575) rfl rfl (any_of HT_.out (by kernel_rfl)) (fun _ _ _ h => h) (Or.inr ⟨by rfl, rfl⟩) ?_ ?_; rotate_left
        ·simp only [Act.put, sA, sB, sC, i64_w, i32_w]
         rfl
        refine pure_ (i := 20) (N := some 64) (v := undef) (a' := ?_) (bs 45 2097151) rfl rfl (any_of HT_.out (by kernel_rfl)) (fun _ _ _ h => h) (Or.inr ⟨by rfl, rfl⟩) ?_ ?_; rotate_left
        ·simp only [Act.put, sA, sB, sC, i64_w, i32_w]
         rfl
        refine pure_ (i := 21) (N := some 65) (v := undef) (a' := ?_) (bs 45 4194303) rfl rfl (any_of HT_.out (by kernel_rfl)) (fun _ _ _ h => h) (Or.inr ⟨by rfl, rfl⟩) ?_ ?_; rotate_left
        ·simp only [Act.put, sA, sB, sC, i64_w, i32_w]
         rfl
        refine pure_ (i := 22) (N := some 66) (v := ?_) (a' := ?_) (bs 45 8388607) rfl rfl (any_of HT_.out (by kernel_rfl)) (fun _ _ _ h => h) (Or.inl ⟨by rfl, ?_⟩) ?_ ?_; rotate_left
        ·intro w'
         go_simp
         with_reducible rfl
        rotate_left
        ·simp only [Act.put, sA, sB, sC, i64_w, i32_w]
         rfl
        refine pure_ (i := 23) (N := some 67) (v := ?_) (a' := ?_) (bs 45 16777215) rfl rfl (any_of HT_.out (by kernel_rfl)) (fun _ _ _ h => h) (Or.inl ⟨by rfl, ?_⟩) ?_ ?_; rotate_left
        ·intro w'
         go_simp
         with_reducible rfl
        rotate_left
        ·simp only [Act.put, sA, sB, sC, i64_w, i32_w]
         rfl
        refine pure_ (i := 24) (N := some 68) (v := undef) (a' := ?_) (bs 45 33554431) rfl rfl (any_of HT_.out (by kernel_rfl)) (fun _ _ _ h => h) (Or.inr ⟨by rfl, rfl⟩) ?_ ?_; rotate_left
        ·simp only [Act.put, sA, sB, sC, i64_w, i32_w]
         rfl
        refine pure_ (i := 25) (N := some 69) (v := undef) (a' := ?_) (bs 45 67108863) rfl rfl (any_of HT_.out (by kernel_rfl)) (fun _ _ _ h => h) (Or.inr ⟨by rfl, rfl⟩) ?_ ?_; rotate_left
        ·simp only [Act.put, sA, sB, sC, i64_w, i32_w]
         rfl
        refine pure_ (i := 26) (N := some 70) (v := undef) (a' := ?_) (bs 45 134217727) rfl rfl (any_of HT_.out (by kernel_rfl)) (fun _ _ _ h => h) (Or.inr ⟨by rfl, rfl⟩) ?_ ?_; rotate_left
        ·simp only [Act.put, sA, sB, sC, i64_w, i32_w]
         rfl
        refine pure_ (i := 27) (N := some 71) (v := undef) (a' := ?_) (bs 45 268435455) rfl rfl (any_of HT_.out (by kernel_rfl)) (fun _ _ _ h => h) (Or.inr ⟨by rfl, rfl⟩) ?_ ?_; rotate_left
        ·simp only [Act.put, sA, sB, sC, i64_w, i32_w]
         rfl
        refine pure_ (i := 28) (N := some 72) (v := undef) (a' := ?_) (bs 45 536870911) rfl rfl (any_of HT_.out (by kernel_rfl)) (fun _ _ _ h => h) (Or.inr ⟨by rfl, rfl⟩) ?_ ?_; rotate_left
        ·simp only [Act.put, sA, sB, sC, i64_w, i32_w]
         rfl
        refine pure_ (i := 29) (N := some 73) (v := undef) (a' := ?_) (bs 45 1073741823) rfl rfl (any_of HT_.out (by kernel_rfl)) (fun _ _ _ h => h) (Or.inr ⟨by rfl, rfl⟩) ?_ ?_; rotate_left
        ·simp only [Act.put, sA, sB, sC, i64_w, i32_w]
         rfl
        refine pure_ (i := 30) (N := some 74) (v := undef) (a' := ?_) (bs 45 2147483647) rfl rfl (any_of HT_.out (by kernel_rfl)) (fun _ _ _ h => h) (Or.inr ⟨by rfl, rfl⟩) ?_ ?_; rotate_left
        ·simp only [Act.put, sA, sB, sC, i64_w, i32_w]
         rfl
        refine pure_ (i := 31) (N := some 75) (v := ?_) (a' := ?_) (bs 45 4294967295) rfl rfl (any_of HT_.out (by kernel_rfl)) (fun _ _ _ h => h) (Or.inl ⟨by rfl, ?_⟩) ?_ ?_; rotate_left
        ·intro w'
         go_simp
         with_reducible rfl
        rotate_left
        ·simp only [Act.put, sA, sB, sC, i64_w, i32_w]
         rfl
        refine pure_ (i := 32) (N := some 76) (v := ?_) (a' := ?_) (bs 45 8589934591) rfl rfl (any_of HT_.out (by kernel_rfl)) (fun _ _ _ h => h) (Or.inl ⟨by rfl, ?_⟩) ?_ ?_; rotate_left
        ·intro w'
         go_simp
         with_reducible rfl
        rotate_left
        ·simp only [Act.put, sA, sB, sC, i64_w, i32_w]
         rfl
        refine pure_ (i := 33) (N := some 77) (v := undef) (a' := ?_) (bs 45 17179869183) rfl rfl (any_of HT_.out (by kernel_rfl)) (fun _ _ _ h => h) (Or.inr ⟨by rfl, rfl⟩) ?_ ?_; rotate_left
        ·simp only [Act.put, sA, sB, sC, i64_w, i32_w]
         rfl
        refine pure_ (i := 34) (N := some 78) (v := undef) (a' := ?_) (bs 45 34359738367) rfl rfl (any_of HT_.out (by kernel_rfl)) (fun _ _ _ h => h) (Or.inr ⟨by rfl, rfl⟩) ?_ ?_; rotate_left
        ·simp only [Act.put, sA, sB, sC, i64_w, i32_w]
         rfl
        refine pure_ (i := 35) (N := some 79) (v := undef) (a' := ?_) (bs 45 68719476735) rfl rfl (any_of HT_.out (by kernel_rfl)) (fun _ _ _ h => h) (Or.inr ⟨by rfl, rfl⟩) ?_ ?_; rotate_left
        ·simp only [Act.put, sA, sB, sC, i64_w, i32_w]
         rfl
        refine pure_ (i := 36) (N := some 80) (v := undef) (a' := ?_) (bs 45 137438953471) rfl rfl (any_of HT_.out (by kernel_rfl)) (fun _ _ _ h => h) (Or.inr ⟨by rfl, rfl⟩) ?_ ?_; rotate_left
        ·simp only [Act.put, sA, sB, sC, i64_w, i32_w]
         rfl
        refine pure_ (i := 37) (N := some 81) (v := undef) (a' := ?_) (bs 45 274877906943) rfl rfl (any_of HT_.out (by kernel_rfl)) (fun _ _ _ h => h) (Or.inr ⟨by rfl, rfl⟩) ?_ ?_; rotate_left
        ·simp only [Act.put, sA, sB, sC, i64_w, i32_w]
         rfl
        refine pure_ (i := 38) (N := some 82) (v := undef) (a' := ?_) (bs 45 549755813887) rfl rfl (any_of HT_.out (by kernel_rfl)) (fun _ _ _ h => h) (Or.inr ⟨by rfl, rfl⟩) ?_ ?_; rotate_left
        ·simp only [Act.put, sA, sB, sC, i64_w, i32_w]
         rfl
        refine pure_ (i := 39) (N := some 83) (v := undef) (a' := ?_) (bs 45 1099511627775) rfl rfl (any_of HT_.out (by kernel_rfl)) (fun _ _ _ h => h) (Or.inr ⟨by rfl, rfl⟩) ?_ ?_; rotate_left
        ·simp only [Act.put, sA, sB, sC, i64_w, i32_w]
         rfl
        refine pure_ (i := 40) (N := some 84) (v := undef) (a' := ?_) (bs 45 2199023255551) rfl rfl (any_of HT_.out (by kernel_rfl)) (fun _ _ _ h => h) (Or.inr ⟨by rfl, rfl⟩) ?_ ?_; rotate_left
        ·simp only [Act.put, sA, sB, sC, i64_w, i32_w]
         rfl
        refine pure_ (i := 41) (N := some 85) (v := undef) (a' := ?_) (bs 45 4398046511103) rfl rfl (any_of HT_.out (by kernel_rfl)) (fun _ _ _ h => h) (Or.inr ⟨by rfl, rfl⟩) ?_ ?_; rotate_left
        ·simp only [Act.put, sA, sB, sC, i64_w, i32_w]
         rfl
        refine pure_ (i := 42) (N := some 86) (v := undef) (a' := ?_) (bs 45 8796093022207) rfl rfl (any_of HT_.out (by kernel_rfl)) (fun _ _ _ h => h) (Or.inr ⟨by rfl, rfl⟩) ?_ ?_; rotate_left
        ·simp only [Act.put, sA, sB, sC, i64_w, i32_w]
         rfl
        refine pure_ (i := 43) (N := some 87) (v := undef) (a' := ?_) (bs 45 17592186044415) rfl rfl (any_of HT_.out (by kernel_rfl)) (fun _ _ _ h => h) (Or.inr ⟨by rfl, rfl⟩) ?_ ?_; rotate_left
        ·simp only [Act.put, sA, sB, sC, i64_w, i32_w]
         rfl
        refine pure_ (i := 44) (N := some 88) (v := ?_) (a' := ?_) (bs 45 35184372088831) rfl rfl (any_of HT_.out (by kernel_rfl)) (fun _ _ _ h => h) (Or.inl ⟨by rfl, ?_⟩) ?_ ?_; rotate_left
        ·intro w'
         go_simp
         with_reducible rfl
        rotate_left
        ·simp only [Act.put, sA, sB, sC, i64_w, i32_w]
         rfl
        refine done_ (done_of HT_.out (by kernel_rfl)) ?_
        try go_wp2
        go_meet
        case rel => exact ⟨_, (true), (by first | rfl | (simp; done) | (simp [*]; done)), H', ⟨by have := HJ5.out; first | omega | exact Nat.le_refl _⟩, ⟨by exact HO483.out⟩, ⟨by exact BK477.out⟩, ⟨by exact BK487.out⟩, ⟨by repeat (first | (with_reducible first | exact HB.out | apply bL | apply bP | apply bD | refine bS ?_ GE477.out | refine bS ?_ GE487.out) | exact HB.out)⟩⟩
       ·as_aux_lemma =>
        rw [if_neg c29] at H
        have c29b0 : decide (a0_1 < 0) = false := decide_eq_false c29; clear c29
        (first | rw [c29b0] | (simp only [i64_w, i32_w]; rw [c29b0]) | skip)
        by_cases c33 : t484 = a0_1
        ·as_aux_lemma =>
         rw [if_pos c33] at H
         have c33b0 : (t484 == a0_1) = true := beq_iff_eq.mpr c33; have c33b1 : (t484 != a0_1) = false := bne_eq_false_iff_eq.mpr c33; clear c33
         by_cases c34 : t485 = (wrap64 (a0_2 + 1))
         ·as_aux_lemma =>
          rw [if_pos c34] at H
          have c34b0 : (t485 == (wrap64 (a0_2 + 1))) = true := beq_iff_eq.mpr c34; have c34b1 : (t485 != (wrap64 (a0_2 + 1))) = false := bne_eq_false_iff_eq.mpr c34; clear c34
          by_cases c35 : (t481.length : Int) = (l0_0.length : Int)
          ·as_aux_lemma =>
           rw [if_pos c35] at H
           have c35b0 : ((t481.length : Int) == (l0_0.length : Int)) = true := beq_iff_eq.mpr c35; have c35b1 : ((t481.length : Int) != (l0_0.length : Int)) = false := bne_eq_false_iff_eq.mpr c35
           have c35b2 : (t481.length == l0_0.length) = true := by first | simpa using c35 | (simp at c35 ⊢; omega)
           clear c35
           by_cases c36 : 0 ≤ t484
           ·as_aux_lemma =>
            rw [if_pos c36] at H
            have c36b0 : decide (0 ≤ t484) = true := decide_eq_true c36; clear c36
            by_cases c37 : t484 < (t481.length : Int)
            ·as_aux_lemma =>
             rw [if_pos c37] at H
             have c37b0 : decide (t484 < (t481.length : Int)) = true := decide_eq_true c37; clear c37; have H' := zA H; clear H
             try go_wp2
             have n0_ : Aside0 (Kd.V k41 41 (((w23.setCell ⟨gb487, 0, none⟩ (.slice Ao24 t481.length co24)).setCell ⟨gb487, 1, none⟩ (.int .i64 t484)).setCell ⟨gb487, 2, none⟩ (.int .i64 t485)) w.heap.size (fun k_ => k_ ≠ gb477 ∧ k_ ≠ gb487) (.slice Ao24 t481.length co24) t481) := ⟨by exact Kd.V_mono (Kd.V_far (p := ⟨gb487, 2, none⟩) (Kd.V_far (p := ⟨gb487, 1, none⟩) (Kd.V_far (p := ⟨gb487, 0, none⟩) (Kd.V_mono HO483.out (fun k_ hk => (⟨hk, hk.2⟩ : _ ∧ k_ ≠ gb487))) (fun _ hk => hk.2) (.slice Ao24 t481.length co24)) (fun _ hk => hk.2) (.int .i64 t484)) (fun _ hk => hk.2) (.int .i64 t485)) (fun _ hk => ⟨hk.1.1, hk.1.2⟩)⟩; have n1_ : Aside0 ((((w23.setCell ⟨gb487, 0, none⟩ (.slice Ao24 t481.length co24)).setCell ⟨gb487, 1, none⟩ (.int .i64 t484)).setCell ⟨gb487, 2, none⟩ (.int .i64 t485)).heap[gb477]? = some (.cells #[.slice A0_0 l0_0.length c0_0, .int .i64 a0_1, .int .i64 a0_2] 24 (0, 0))) := ⟨by refine blk_far ?_ NB477_487.out _; refine blk_far ?_ NB477_487.out _; refine blk_far ?_ NB477_487.out _; exact BK477.out⟩; have n2_ : Aside0 ((((w23.setCell ⟨gb487, 0, none⟩ (.slice Ao24 t481.length co24)).setCell ⟨gb487, 1, none⟩ (.int .i64 t484)).setCell ⟨gb487, 2, none⟩ (.int .i64 t485)).heap[gb487]? = some (.cells #[.slice Ao24 t481.length co24, .int .i64 t484, .int .i64 t485] 24 (0, 0))) := ⟨by refine blk_put (cs := #[.slice Ao24 t481.length co24, .int .i64 t484, .int .i64 0]) ?_ 2 _ rfl; refine blk_put (cs := #[.slice Ao24 t481.length co24, .int .i64 0, .int .i64 0]) ?_ 1 _ rfl; refine blk_put (cs := #[.slice none 0 0, .int .i64 0, .int .i64 0]) ?_ 0 _ rfl; exact BK487.out⟩; have n3_ : Aside0 (Below w.heap.size w (((w23.setCell ⟨gb487, 0, none⟩ (.slice Ao24 t481.length co24)).setCell ⟨gb487, 1, none⟩ (.int .i64 t484)).setCell ⟨gb487, 2, none⟩ (.int .i64 t485))) := ⟨by repeat (first | (with_reducible first | exact HB.out | apply bL | apply bP | apply bD | refine bS ?_ GE477.out | refine bS ?_ GE487.out) | exact HB.out)⟩
             (try clear HO483)
             (try clear BK477)
             (try clear BK487)
             (try clear HB)
             generalize (((w23.setCell ⟨gb487, 0, none⟩ (.slice Ao24 t481.length co24)).setCell ⟨gb487, 1, none⟩ (.int .i64 t484)).setCell ⟨gb487, 2, none⟩ (.int .i64 t485)) = w38 at n0_ n1_ n2_ n3_ ⊢
             have HO483 := n0_; have BK477 := n1_; have BK487 := n2_; have HB := n3_; clear n0_ n1_ n2_ n3_; have n0_ := zA (Kd.V_drew HO483.out); have n1_ := zA (bW BK477.out); have n2_ := zA (bW BK487.out); have n3_ := zA (bD HB.out); clear HO483; clear BK477; clear BK487; clear HB; have HO483 := n0_; have BK477 := n1_; have BK487 := n2_; have HB := n3_; clear n0_ n1_ n2_ n3_; have p490 : 0 ≤ (t484 : Int) := of_decide_eq_true (by assumption); have q490 : t484 < (t481.length : Int) := of_decide_eq_true (by assumption); obtain ⟨ad490, A490_1, c490_1, e490, hx490_0, hx490_1, hx490_2, hl490_1, hi490_1⟩ := at_T41 (Kd.V_reads' HO483.out).2.2 t484 p490 q490; cases e490; obtain ⟨ce490, hce490, hMe490, hcc490⟩ := Kd.V_get HO483.out z41 t484 p490 (by first | exact q490 | exact of_decide_eq_true (by assumption) | (have e_ := (Kd.V_reads' HO483.out).1; omega)); obtain ⟨ua490_1, uc490_1, rfl, ul490_1, ge490_1⟩ := k41_openF hMe490; have hv490_1 := hcc490 1 _ rfl
             rw [add_field _ _ 1 (by omega)] at hv490_1
             replace hv490_1 := Option.some.inj (hv490_1.symm.trans hx490_1)
             injection hv490_1 with hva_ hvn_ hvc_
             rw [hva_] at ge490_1
             rw [hvc_] at ul490_1
             have HL490_1 := zA (show Kd.V (Kd.slice 5 (Kd.int .u8)) 25 _ w.heap.size _ _ ((rd_T41 t481 t484).f1) from Kd.V_mk ul490_1 ge490_1); clear hva_ hvn_ hvc_ ge490_1 ul490_1; clear hcc490 hce490; have HR490_1 := zA hi490_1; have HC490_1 := zA hl490_1; clear hi490_1 hl490_1; replace p490 := eq_true p490; replace q490 := eq_true q490; refine start_ (n := 45) (S := fun w' => w'.cell? ⟨gb487, 0, none⟩ = some (.slice (some ad490) t481.length co24) ∧ w'.cell? ⟨gb487, 1, none⟩ = some (.int .i64 t484) ∧ w'.cell? ⟨gb487, 2, none⟩ = some (.int .i64 t485) ∧ w'.cell? ⟨gb477, 0, none⟩ = some (.slice A0_0 l0_0.length c0_0) ∧ w'.cell? ⟨gb477, 1, none⟩ = some (.int .i64 a0_1) ∧ w'.cell? ⟨gb477, 2, none⟩ = some (.int .i64 a0_2) ∧ w'.cell? (ad490.add ((t484).toNat * 3)) = some (.int .i64 ((rd_T41 t481 t484).f0)) ∧ w'.cell? ⟨(ad490.add ((t484).toNat * 3)).block, (ad490.add ((t484).toNat * 3)).off + 1, none⟩ = some (.slice A490_1 ((rd_T41 t481 t484).f1).length c490_1) ∧ w'.cell? ⟨(ad490.add ((t484).toNat * 3)).block, (ad490.add ((t484).toNat * 3)).off + 2, none⟩ = some (.bool ((rd_T41 t481 t484).f2))) (ds := []) (bs 45 0) (by kernel_rfl) rfl rfl ⟨(blk_cell BK487.out 0).trans rfl, (blk_cell BK487.out 1).trans rfl, (blk_cell BK487.out 2).trans rfl, (blk_cell BK477.out 0).trans rfl, (blk_cell BK477.out 1).trans rfl, (blk_cell BK477.out 2).trans rfl, hx490_0, hx490_1, hx490_2⟩ (fun hHeld => ?_); refine with_tabW reelkeeperlaw13_DriveWrites.tab8 reelkeeperlaw13_DriveWrites.bits8 (fun HT_ HW_ => ?_)
             generalize w38.drew = w39 at HO483 BK477 BK487 HB HL490_1 HR490_1 hx490_0 hx490_1 hx490_2 hHeld ⊢
             refine take_ (i := 0) (N := some 44) (v := ?_) (a' := ?_) (bs 45 1) rfl rfl (take_ofW HT_.out HW_.out (by kernel_rfl)) (fun _ _ _ h => h) (Or.inl ⟨by rfl, ?_⟩) hHeld ?_ ?_; rotate_left
             ·rintro w' ⟨s0, s1, s2, s3, s4, s5, s6, s7, s8⟩
              go_simp
              with_reducible rfl
             rotate_left
             ·simp only [Act.put, sA, sB, sC, i64_w, i32_w]
              rfl
             refine one_ (i := 1) (N := some 45) (bs 45 3) rfl rfl (one_of HT_.out (by kernel_rfl)) (by decide) (fun K hK => ?_); refine goes_ Try.func27 (by kernel_rfl) rfl #[.agg #[.slice (some ad490) t481.length co24, .int .i64 t484, .int .i64 t485]] (by rfl) rfl rfl (by (try simp only [List.map_toArray, List.map_cons, List.map_nil]); first | done | rfl | (simp only [List.length_drop, List.length_take]; rfl)) ?_
             with_reducible refine (drive_May.calls _ _ t481 t484 t485 true _ ?side1 ?side2 A27.out).mono ?_
             (case side1 => repeat (first | exact (Kd.V_reads' HO483.out).2.2 | (with_reducible refine Kd.C_alloc ?_ _) | (with_reducible refine Kd.C_drewN ?_ _) | (with_reducible refine Kd.C_drew ?_)))
             (case side2 => exact (Kd.V_reads' HO483.out).2.1)
             rintro e w40 ⟨rfl, hb⟩
             have HS6_ := (hb.cell (World.block_lt_of_cell? _ _ (hHeld.2.2.2.2.2.2.1))).trans (hHeld.2.2.2.2.2.2.1); have HS7_ := (hb.cell (World.block_lt_of_cell? _ _ (hHeld.2.2.2.2.2.2.2.1))).trans (hHeld.2.2.2.2.2.2.2.1); have HS8_ := (hb.cell (World.block_lt_of_cell? _ _ (hHeld.2.2.2.2.2.2.2.2))).trans (hHeld.2.2.2.2.2.2.2.2); refine ⟨_, rfl, ?_⟩; have n0_ := zA (Kd.V_below HO483.out hb); have n1_ := zA (bK BK477.out hb); have n2_ := zA (bK BK487.out hb); have n3_ := zA (below_step (by repeat (first | (with_reducible first | exact HB.out | apply bL | apply bP | apply bD | refine bS ?_ GE477.out | refine bS ?_ GE487.out) | exact HB.out)) hb); clear HO483; clear BK477; clear BK487; clear HB; have HO483 := n0_; have BK477 := n1_; have BK487 := n2_; have HB := n3_; clear n0_ n1_ n2_ n3_
             (try clear hb)
             (try clear hb2)
             (try clear hk)
             (try clear hi)
             refine hK.out _ _ ⟨(blk_cell BK487.out 0).trans rfl, (blk_cell BK487.out 1).trans rfl, (blk_cell BK487.out 2).trans rfl, (blk_cell BK477.out 0).trans rfl, (blk_cell BK477.out 1).trans rfl, (blk_cell BK477.out 2).trans rfl, HS6_, HS7_, HS8_⟩ (fun hHeld => ?_); clear hK K; refine norm_ (a' := ?_) ?_ ?_; rotate_left
             ·show Act.put _ (some 45) _ = _
              simp only [Act.put, sA, sB, sC, i64_w, i32_w]
              rfl
             refine pure_ (i := 2) (N := some 46) (v := ?_) (a' := ?_) (bs 45 7) rfl rfl (any_of HT_.out (by kernel_rfl)) (fun _ _ _ h => h) (Or.inl ⟨by rfl, ?_⟩) ?_ ?_; rotate_left
             ·intro w'
              go_simp
              with_reducible rfl
             rotate_left
             ·simp only [Act.put, sA, sB, sC, i64_w, i32_w]
              rfl
             refine pure_ (i := 3) (N := some 47) (v := ?_) (a' := ?_) (bs 45 15) rfl rfl (any_of HT_.out (by kernel_rfl)) (fun _ _ _ h => h) (Or.inl ⟨by rfl, ?_⟩) ?_ ?_; rotate_left
             ·intro w'
              go_simp
              with_reducible rfl
             rotate_left
             ·simp only [Act.put, sA, sB, sC, i64_w, i32_w]
              rfl
             refine pure_ (i := 4) (N := some 48) (v := ?_) (a' := ?_) (bs 45 31) rfl rfl (any_of HT_.out (by kernel_rfl)) (fun _ _ _ h => h) (Or.inl ⟨by rfl, ?_⟩) ?_ ?_; rotate_left
             ·intro w'
              go_simp
              with_reducible rfl
             rotate_left
             ·simp only [Act.put, sA, sB, sC, i64_w, i32_w]
              rfl
             refine take_ (i := 5) (N := some 49) (v := ?_) (a' := ?_) (bs 45 63) rfl rfl (take_ofW HT_.out HW_.out (by kernel_rfl)) (fun _ _ _ h => h) (Or.inl ⟨by rfl, ?_⟩) hHeld ?_ ?_; rotate_left
             ·rintro w' ⟨s0, s1, s2, s3, s4, s5, s6, s7, s8⟩
              go_simp
              with_reducible rfl
             rotate_left
             ·simp only [Act.put, sA, sB, sC, i64_w, i32_w]
              rfl
             refine pure_ (i := 6) (N := some 50) (v := ?_) (a' := ?_) (bs 45 127) rfl rfl (any_of HT_.out (by kernel_rfl)) (fun _ _ _ h => h) (Or.inl ⟨by rfl, ?_⟩) ?_ ?_; rotate_left
             ·intro w'
              go_simp
              with_reducible rfl
             rotate_left
             ·simp only [Act.put, sA, sB, sC, i64_w, i32_w]
              rfl
             refine pure_ (i := 7) (N := some 51) (v := ?_) (a' := ?_) (bs 45 255) rfl rfl (any_of HT_.out (by kernel_rfl)) (fun _ _ _ h => h) (Or.inl ⟨by rfl, ?_⟩) ?_ ?_; rotate_left
             ·intro w'
              go_simp
              with_reducible rfl
             rotate_left
             ·simp only [Act.put, sA, sB, sC, i64_w, i32_w]
              rfl
             refine pure_ (i := 8) (N := some 52) (v := ?_) (a' := ?_) (bs 45 511) rfl rfl (any_of HT_.out (by kernel_rfl)) (fun _ _ _ h => h) (Or.inl ⟨by rfl, ?_⟩) ?_ ?_; rotate_left
             ·intro w'
              go_simp
              with_reducible rfl
             rotate_left
             ·simp only [Act.put, sA, sB, sC, i64_w, i32_w]
              rfl
             refine pure_ (i := 9) (N := some 53) (v := ?_) (a' := ?_) (bs 45 1023) rfl rfl (any_of HT_.out (by kernel_rfl)) (fun _ _ _ h => h) (Or.inl ⟨by rfl, ?_⟩) ?_ ?_; rotate_left
             ·intro w'
              go_simp
              with_reducible rfl
             rotate_left
             ·simp only [Act.put, sA, sB, sC, i64_w, i32_w]
              rfl
             refine pure_ (i := 11) (N := some 55) (v := ?_) (a' := ?_) (bs 45 3071) rfl rfl (any_of HT_.out (by kernel_rfl)) (fun _ _ _ h => h) (Or.inl ⟨by rfl, ?_⟩) ?_ ?_; rotate_left
             ·intro w'
              go_simp
              with_reducible rfl
             rotate_left
             ·simp only [Act.put, sA, sB, sC, i64_w, i32_w]
              rfl
             refine take_ (i := 10) (N := some 54) (v := ?_) (a' := ?_) (bs 45 4095) rfl rfl (take_ofW HT_.out HW_.out (by kernel_rfl)) (fun _ _ _ h => h) (Or.inl ⟨by rfl, ?_⟩) hHeld ?_ ?_; rotate_left
             ·rintro w' ⟨s0, s1, s2, s3, s4, s5, s6, s7, s8⟩
              go_simp
              with_reducible rfl
             rotate_left
             ·simp only [Act.put, sA, sB, sC, i64_w, i32_w]
              rfl
             refine take_ (i := 12) (N := some 56) (v := ?_) (a' := ?_) (bs 45 8191) rfl rfl (take_ofW HT_.out HW_.out (by kernel_rfl)) (fun _ _ _ h => h) (Or.inl ⟨by rfl, ?_⟩) hHeld ?_ ?_; rotate_left
             ·rintro w' ⟨s0, s1, s2, s3, s4, s5, s6, s7, s8⟩
              go_simp
              with_reducible rfl
             rotate_left
             ·simp only [Act.put, sA, sB, sC, i64_w, i32_w]
              rfl
             refine pure_ (i := 13) (N := some 57) (v := ?_) (a' := ?_) (bs 45 16383) rfl rfl (any_of HT_.out (by kernel_rfl)) (fun _ _ _ h => h) (Or.inl ⟨by rfl, ?_⟩) ?_ ?_; rotate_left
             ·intro w'
              go_simp
              with_reducible rfl
             rotate_left
             ·simp only [Act.put, sA, sB, sC, i64_w, i32_w]
              rfl
             refine pure_ (i := 14) (N := some 58) (v := ?_) (a' := ?_) (bs 45 32767) rfl rfl (any_of HT_.out (by kernel_rfl)) (fun _ _ _ h => h) (Or.inl ⟨by rfl, ?_⟩) ?_ ?_; rotate_left
             ·intro w'
              go_simp
              with_reducible rfl
             rotate_left
             ·simp only [Act.put, sA, sB, sC, i64_w, i32_w]
              rfl
             refine pure_ (i := 15) (N := some 59) (v := ?_) (a' := ?_) (bs 45 65535) rfl rfl (any_of HT_.out (by kernel_rfl)) (fun _ _ _ h => h) (Or.inl ⟨by rfl, ?_⟩) ?_ ?_; rotate_left
             ·intro w'
              go_simp
              with_reducible rfl
             rotate_left
             ·simp only [Act.put, sA, sB, sC, i64_w, i32_w]
              rfl
             refine pure_ (i := 16) (N := some 60) (v := ?_) (a' := ?_) (bs 45 131071) rfl rfl (any_of HT_.out (by kernel_rfl)) (fun _ _ _ h => h) (Or.inl ⟨by rfl, ?_⟩) ?_ ?_; rotate_left
             ·intro w'
              go_simp
              with_reducible rfl
             rotate_left
             ·simp only [Act.put, sA, sB, sC, i64_w, i32_w]
              rfl
             refine pure_ (i := 18) (N := some 62) (v := ?_) (a' := ?_) (bs 45 393215) rfl rfl (any_of HT_.out (by kernel_rfl)) (fun _ _ _ h => h) (Or.inl ⟨by rfl, ?_⟩) ?_ ?_; rotate_left
             ·intro w'
              go_simp
              with_reducible rfl
             rotate_left
             ·simp only [Act.put, sA, sB, sC, i64_w, i32_w]
              rfl
             refine take_ (i := 17) (N := some 61) (v := ?_) (a' := ?_) (bs 45 524287) rfl rfl (take_ofW HT_.out HW_.out (by kernel_rfl)) (fun _ _ _ h => h) (Or.inl ⟨by rfl, ?_⟩) hHeld ?_ ?_; rotate_left
             ·rintro w' ⟨s0, s1, s2, s3, s4, s5, s6, s7, s8⟩
              go_simp
              with_reducible rfl
             rotate_left
             ·simp only [Act.put, sA, sB, sC, i64_w, i32_w]
              rfl
             refine take_ (i := 19) (N := some 63) (v := ?_) (a' := ?_) (bs 45 1048575) rfl rfl (take_ofW HT_.out HW_.out (by kernel_rfl)) (fun _ _ _ h => h) (Or.inl ⟨by rfl, ?_⟩) hHeld ?_ ?_; rotate_left
             ·rintro w' ⟨s0, s1, s2, s3, s4, s5, s6, s7, s8⟩
              go_simp
              with_reducible rfl
             rotate_left
             ·simp only [Act.put, sA, sB, sC, i64_w, i32_w]
              rfl
             refine pure_ (i := 20) (N := some 64) (v := ?_) (a' := ?_) (bs 45 2097151) rfl rfl (any_of HT_.out (by kernel_rfl)) (fun _ _ _ h => h) (Or.inl ⟨by rfl, ?_⟩) ?_ ?_; rotate_left
             ·intro w'
              go_simp
              with_reducible rfl
             rotate_left
             ·simp only [Act.put, sA, sB, sC, i64_w, i32_w]
              rfl
             refine pure_ (i := 21) (N := some 65) (v := ?_) (a' := ?_) (bs 45 4194303) rfl rfl (any_of HT_.out (by kernel_rfl)) (fun _ _ _ h => h) (Or.inl ⟨by rfl, ?_⟩) ?_ ?_; rotate_left
             ·intro w'
              go_simp
              with_reducible rfl
             rotate_left
             ·simp only [Act.put, sA, sB, sC, i64_w, i32_w]
              rfl
             refine pure_ (i := 22) (N := some 66) (v := ?_) (a' := ?_) (bs 45 8388607) rfl rfl (any_of HT_.out (by kernel_rfl)) (fun _ _ _ h => h) (Or.inl ⟨by rfl, ?_⟩) ?_ ?_; rotate_left
             ·intro w'
              go_simp
              with_reducible rfl
             rotate_left
             ·simp only [Act.put, sA, sB, sC, i64_w, i32_w]
              rfl
             refine pure_ (i := 23) (N := some 67) (v := ?_) (a' := ?_) (bs 45 16777215) rfl rfl (any_of HT_.out (by kernel_rfl)) (fun _ _ _ h => h) (Or.inl ⟨by rfl, ?_⟩) ?_ ?_; rotate_left
             ·intro w'
              go_simp
              with_reducible rfl
             rotate_left
             ·simp only [Act.put, sA, sB, sC, i64_w, i32_w]
              rfl
             refine pure_ (i := 24) (N := some 68) (v := ?_) (a' := ?_) (bs 45 33554431) rfl rfl (any_of HT_.out (by kernel_rfl)) (fun _ _ _ h => h) (Or.inl ⟨by rfl, ?_⟩) ?_ ?_; rotate_left
             ·intro w'
              go_simp
              with_reducible rfl
             rotate_left
             ·simp only [Act.put, sA, sB, sC, i64_w, i32_w]
              rfl
             refine pure_ (i := 27) (N := some 71) (v := ?_) (a' := ?_) (bs 45 167772159) rfl rfl (any_of HT_.out (by kernel_rfl)) (fun _ _ _ h => h) (Or.inl ⟨by rfl, ?_⟩) ?_ ?_; rotate_left
             ·intro w'
              go_simp
              with_reducible rfl
             rotate_left
             ·simp only [Act.put, sA, sB, sC, i64_w, i32_w]
              rfl
             refine take_ (i := 25) (N := some 69) (v := ?_) (a' := ?_) (bs 45 201326591) rfl rfl (take_ofW HT_.out HW_.out (by kernel_rfl)) (fun _ _ _ h => h) (Or.inl ⟨by rfl, ?_⟩) hHeld ?_ ?_; rotate_left
             ·rintro w' ⟨s0, s1, s2, s3, s4, s5, s6, s7, s8⟩
              go_simp
              with_reducible rfl
             rotate_left
             ·simp only [Act.put, sA, sB, sC, i64_w, i32_w]
              rfl
             refine pure_ (i := 26) (N := some 70) (v := ?_) (a' := ?_) (bs 45 268435455) rfl rfl (any_of HT_.out (by kernel_rfl)) (fun _ _ _ h => h) (Or.inl ⟨by rfl, ?_⟩) ?_ ?_; rotate_left
             ·intro w'
              go_simp
              with_reducible rfl
             rotate_left
             ·simp only [Act.put, sA, sB, sC, i64_w, i32_w]
              rfl
             refine take_ (i := 28) (N := some 72) (v := ?_) (a' := ?_) (bs 45 536870911) rfl rfl (take_ofW HT_.out HW_.out (by kernel_rfl)) (fun _ _ _ h => h) (Or.inl ⟨by rfl, ?_⟩) hHeld ?_ ?_; rotate_left
             ·rintro w' ⟨s0, s1, s2, s3, s4, s5, s6, s7, s8⟩
              go_simp
              with_reducible rfl
             rotate_left
             ·simp only [Act.put, sA, sB, sC, i64_w, i32_w]
              rfl
             refine pure_ (i := 29) (N := some 73) (v := ?_) (a' := ?_) (bs 45 1073741823) rfl rfl (any_of HT_.out (by kernel_rfl)) (fun _ _ _ h => h) (Or.inl ⟨by rfl, ?_⟩) ?_ ?_; rotate_left
             ·intro w'
              go_simp
              with_reducible rfl
             rotate_left
             ·simp only [Act.put, sA, sB, sC, i64_w, i32_w]
              rfl
             refine pure_ (i := 30) (N := some 74) (v := ?_) (a' := ?_) (bs 45 2147483647) rfl rfl (any_of HT_.out (by kernel_rfl)) (fun _ _ _ h => h) (Or.inl ⟨by rfl, ?_⟩) ?_ ?_; rotate_left
             ·intro w'
              go_simp
              with_reducible rfl
             rotate_left
             ·simp only [Act.put, sA, sB, sC, i64_w, i32_w]
              rfl
             refine pure_ (i := 31) (N := some 75) (v := ?_) (a' := ?_) (bs 45 4294967295) rfl rfl (any_of HT_.out (by kernel_rfl)) (fun _ _ _ h => h) (Or.inl ⟨by rfl, ?_⟩) ?_ ?_; rotate_left
             ·intro w'
              go_simp
              with_reducible rfl
             rotate_left
             ·simp only [Act.put, sA, sB, sC, i64_w, i32_w]
              rfl
             refine pure_ (i := 32) (N := some 76) (v := ?_) (a' := ?_) (bs 45 8589934591) rfl rfl (any_of HT_.out (by kernel_rfl)) (fun _ _ _ h => h) (Or.inl ⟨by rfl, ?_⟩) ?_ ?_; rotate_left
             ·intro w'
              go_simp
              with_reducible rfl
             rotate_left
             ·simp only [Act.put, sA, sB, sC, i64_w, i32_w]
              rfl
             refine pure_ (i := 33) (N := some 77) (v := ?_) (a' := ?_) (bs 45 17179869183) rfl rfl (any_of HT_.out (by kernel_rfl)) (fun _ _ _ h => h) (Or.inl ⟨by rfl, ?_⟩) ?_ ?_; rotate_left
             ·intro w'
              go_simp
              with_reducible rfl
             rotate_left
             ·simp only [Act.put, sA, sB, sC, i64_w, i32_w]
              rfl
             refine pure_ (i := 35) (N := some 79) (v := ?_) (a' := ?_) (bs 45 51539607551) rfl rfl (any_of HT_.out (by kernel_rfl)) (fun _ _ _ h => h) (Or.inl ⟨by rfl, ?_⟩) ?_ ?_; rotate_left
             ·intro w'
              go_simp
              with_reducible rfl
             rotate_left
             ·simp only [Act.put, sA, sB, sC, i64_w, i32_w]
              rfl
             refine pure_ (i := 41) (N := some 85) (v := ?_) (a' := ?_) (bs 45 2250562863103) rfl rfl (any_of HT_.out (by kernel_rfl)) (fun _ _ _ h => h) (Or.inl ⟨by rfl, ?_⟩) ?_ ?_; rotate_left
             ·intro w'
              go_simp
              with_reducible rfl
             rotate_left
             ·simp only [Act.put, sA, sB, sC, i64_w, i32_w]
              rfl
             refine take_ (i := 34) (N := some 78) (v := ?_) (a' := ?_) (bs 45 2267742732287) rfl rfl (take_ofW HT_.out HW_.out (by kernel_rfl)) (fun _ _ _ h => h) (Or.inl ⟨by rfl, ?_⟩) hHeld ?_ ?_; rotate_left
             ·rintro w' ⟨s0, s1, s2, s3, s4, s5, s6, s7, s8⟩
              go_simp
              with_reducible rfl
             rotate_left
             ·simp only [Act.put, sA, sB, sC, i64_w, i32_w]
              rfl
             refine take_ (i := 36) (N := some 80) (v := ?_) (a' := ?_) (bs 45 2336462209023) rfl rfl (take_ofW HT_.out HW_.out (by kernel_rfl)) (fun _ _ _ h => h) (Or.inl ⟨by rfl, ?_⟩) hHeld ?_ ?_; rotate_left
             ·rintro w' ⟨s0, s1, s2, s3, s4, s5, s6, s7, s8⟩
              go_simp
              with_reducible rfl
             rotate_left
             ·simp only [Act.put, sA, sB, sC, i64_w, i32_w]
              rfl
             refine pure_ (i := 37) (N := some 81) (v := ?_) (a' := ?_) (bs 45 2473901162495) rfl rfl (any_of HT_.out (by kernel_rfl)) (fun _ _ _ h => h) (Or.inl ⟨by rfl, ?_⟩) ?_ ?_; rotate_left
             ·intro w'
              go_simp
              with_reducible rfl
             rotate_left
             ·simp only [Act.put, sA, sB, sC, i64_w, i32_w]
              rfl
             refine pure_ (i := 38) (N := some 82) (v := ?_) (a' := ?_) (bs 45 2748779069439) rfl rfl (any_of HT_.out (by kernel_rfl)) (fun _ _ _ h => h) (Or.inl ⟨by rfl, ?_⟩) ?_ ?_; rotate_left
             ·intro w'
              go_simp
              with_reducible rfl
             rotate_left
             ·simp only [Act.put, sA, sB, sC, i64_w, i32_w]
              rfl
             refine take_ (i := 39) (N := some 83) (v := ?_) (a' := ?_) (bs 45 3298534883327) rfl rfl (take_ofW HT_.out HW_.out (by kernel_rfl)) (fun _ _ _ h => h) (Or.inl ⟨by rfl, ?_⟩) hHeld ?_ ?_; rotate_left
             ·rintro w' ⟨s0, s1, s2, s3, s4, s5, s6, s7, s8⟩
              go_simp
              with_reducible rfl
             rotate_left
             ·simp only [Act.put, sA, sB, sC, i64_w, i32_w]
              rfl
             refine pure_ (i := 40) (N := some 84) (v := ?_) (a' := ?_) (bs 45 4398046511103) rfl rfl (any_of HT_.out (by kernel_rfl)) (fun _ _ _ h => h) (Or.inl ⟨by rfl, ?_⟩) ?_ ?_; rotate_left
             ·intro w'
              go_simp
              with_reducible rfl
             rotate_left
             ·simp only [Act.put, sA, sB, sC, i64_w, i32_w]
              rfl
             refine take_ (i := 42) (N := some 86) (v := ?_) (a' := ?_) (bs 45 8796093022207) rfl rfl (take_ofW HT_.out HW_.out (by kernel_rfl)) (fun _ _ _ h => h) (Or.inl ⟨by rfl, ?_⟩) hHeld ?_ ?_; rotate_left
             ·rintro w' ⟨s0, s1, s2, s3, s4, s5, s6, s7, s8⟩
              go_simp
              with_reducible rfl
             rotate_left
             ·simp only [Act.put, sA, sB, sC, i64_w, i32_w]
              rfl
             refine pure_ (i := 43) (N := some 87) (v := ?_) (a' := ?_) (bs 45 17592186044415) rfl rfl (any_of HT_.out (by kernel_rfl)) (fun _ _ _ h => h) (Or.inl ⟨by rfl, ?_⟩) ?_ ?_; rotate_left
             ·intro w'
              go_simp
              with_reducible rfl
             rotate_left
             ·simp only [Act.put, sA, sB, sC, i64_w, i32_w]
              rfl
             refine pure_ (i := 44) (N := some 88) (v := ?_) (a' := ?_) (bs 45 35184372088831) rfl rfl (any_of HT_.out (by kernel_rfl)) (fun _ _ _ h => h) (Or.inl ⟨by rfl, ?_⟩) ?_ ?_; rotate_left
             ·intro w'
              go_simp
              with_reducible rfl
             rotate_left
             ·simp only [Act.put, sA, sB, sC, i64_w, i32_w]
              rfl
             refine done_ (done_of HT_.out (by kernel_rfl)) ?_
             try go_wp2
             go_meet
             case rel => exact ⟨_, (((((rd_T41 t481 t484).f1).length : Int) != t485)), (by first | rfl | (simp; done) | (simp [*]; done)), H', ⟨by have := HJ5.out; first | omega | exact Nat.le_refl _⟩, ⟨by exact HO483.out⟩, ⟨by exact BK477.out⟩, ⟨by exact BK487.out⟩, ⟨by repeat (first | (with_reducible first | exact HB.out | apply bL | apply bP | apply bD | refine bS ?_ GE477.out | refine bS ?_ GE487.out) | exact HB.out)⟩⟩
            ·rw [if_neg c37] at H
             exact absurd H (by simp)
           ·rw [if_neg c36] at H
            exact absurd H (by simp)
          ·as_aux_lemma =>
           rw [if_neg c35] at H
           have c35b0 : ((t481.length : Int) == (l0_0.length : Int)) = false := beq_eq_false_iff_ne.mpr c35; have c35b1 : ((t481.length : Int) != (l0_0.length : Int)) = true := bne_iff_ne.mpr c35
           have c35b2 : (t481.length == l0_0.length) = false := by first | simpa using c35 | (simp at c35 ⊢; omega)
           have H' := zA H; clear H
           try go_wp2
           have n0_ : Aside0 (Kd.V k41 41 (((w23.setCell ⟨gb487, 0, none⟩ (.slice Ao24 t481.length co24)).setCell ⟨gb487, 1, none⟩ (.int .i64 t484)).setCell ⟨gb487, 2, none⟩ (.int .i64 t485)) w.heap.size (fun k_ => k_ ≠ gb477 ∧ k_ ≠ gb487) (.slice Ao24 t481.length co24) t481) := ⟨by exact Kd.V_mono (Kd.V_far (p := ⟨gb487, 2, none⟩) (Kd.V_far (p := ⟨gb487, 1, none⟩) (Kd.V_far (p := ⟨gb487, 0, none⟩) (Kd.V_mono HO483.out (fun k_ hk => (⟨hk, hk.2⟩ : _ ∧ k_ ≠ gb487))) (fun _ hk => hk.2) (.slice Ao24 t481.length co24)) (fun _ hk => hk.2) (.int .i64 t484)) (fun _ hk => hk.2) (.int .i64 t485)) (fun _ hk => ⟨hk.1.1, hk.1.2⟩)⟩; have n1_ : Aside0 ((((w23.setCell ⟨gb487, 0, none⟩ (.slice Ao24 t481.length co24)).setCell ⟨gb487, 1, none⟩ (.int .i64 t484)).setCell ⟨gb487, 2, none⟩ (.int .i64 t485)).heap[gb477]? = some (.cells #[.slice A0_0 l0_0.length c0_0, .int .i64 a0_1, .int .i64 a0_2] 24 (0, 0))) := ⟨by refine blk_far ?_ NB477_487.out _; refine blk_far ?_ NB477_487.out _; refine blk_far ?_ NB477_487.out _; exact BK477.out⟩; have n2_ : Aside0 ((((w23.setCell ⟨gb487, 0, none⟩ (.slice Ao24 t481.length co24)).setCell ⟨gb487, 1, none⟩ (.int .i64 t484)).setCell ⟨gb487, 2, none⟩ (.int .i64 t485)).heap[gb487]? = some (.cells #[.slice Ao24 t481.length co24, .int .i64 t484, .int .i64 t485] 24 (0, 0))) := ⟨by refine blk_put (cs := #[.slice Ao24 t481.length co24, .int .i64 t484, .int .i64 0]) ?_ 2 _ rfl; refine blk_put (cs := #[.slice Ao24 t481.length co24, .int .i64 0, .int .i64 0]) ?_ 1 _ rfl; refine blk_put (cs := #[.slice none 0 0, .int .i64 0, .int .i64 0]) ?_ 0 _ rfl; exact BK487.out⟩; have n3_ : Aside0 (Below w.heap.size w (((w23.setCell ⟨gb487, 0, none⟩ (.slice Ao24 t481.length co24)).setCell ⟨gb487, 1, none⟩ (.int .i64 t484)).setCell ⟨gb487, 2, none⟩ (.int .i64 t485))) := ⟨by repeat (first | (with_reducible first | exact HB.out | apply bL | apply bP | apply bD | refine bS ?_ GE477.out | refine bS ?_ GE487.out) | exact HB.out)⟩
           (try clear HO483)
           (try clear BK477)
           (try clear BK487)
           (try clear HB)
           generalize (((w23.setCell ⟨gb487, 0, none⟩ (.slice Ao24 t481.length co24)).setCell ⟨gb487, 1, none⟩ (.int .i64 t484)).setCell ⟨gb487, 2, none⟩ (.int .i64 t485)) = w41 at n0_ n1_ n2_ n3_ ⊢
           have HO483 := n0_; have BK477 := n1_; have BK487 := n2_; have HB := n3_; clear n0_ n1_ n2_ n3_; have n0_ := zA (Kd.V_drew HO483.out); have n1_ := zA (bW BK477.out); have n2_ := zA (bW BK487.out); have n3_ := zA (bD HB.out); clear HO483; clear BK477; clear BK487; clear HB; have HO483 := n0_; have BK477 := n1_; have BK487 := n2_; have HB := n3_; clear n0_ n1_ n2_ n3_; refine start_ (n := 45) (S := fun w' => w'.cell? ⟨gb487, 0, none⟩ = some (.slice Ao24 t481.length co24) ∧ w'.cell? ⟨gb487, 1, none⟩ = some (.int .i64 t484) ∧ w'.cell? ⟨gb487, 2, none⟩ = some (.int .i64 t485) ∧ w'.cell? ⟨gb477, 0, none⟩ = some (.slice A0_0 l0_0.length c0_0) ∧ w'.cell? ⟨gb477, 1, none⟩ = some (.int .i64 a0_1) ∧ w'.cell? ⟨gb477, 2, none⟩ = some (.int .i64 a0_2)) (ds := []) (bs 45 0) (by kernel_rfl) rfl rfl ⟨(blk_cell BK487.out 0).trans rfl, (blk_cell BK487.out 1).trans rfl, (blk_cell BK487.out 2).trans rfl, (blk_cell BK477.out 0).trans rfl, (blk_cell BK477.out 1).trans rfl, (blk_cell BK477.out 2).trans rfl⟩ (fun hHeld => ?_); refine with_tabW reelkeeperlaw13_DriveWrites.tab8 reelkeeperlaw13_DriveWrites.bits8 (fun HT_ HW_ => ?_)
           generalize w41.drew = w42 at HO483 BK477 BK487 HB hHeld ⊢
           refine take_ (i := 0) (N := some 44) (v := ?_) (a' := ?_) (bs 45 1) rfl rfl (take_ofW HT_.out HW_.out (by kernel_rfl)) (fun _ _ _ h => h) (Or.inl ⟨by rfl, ?_⟩) hHeld ?_ ?_; rotate_left
           ·rintro w' ⟨s0, s1, s2, s3, s4, s5⟩
            go_simp
            with_reducible rfl
           rotate_left
           ·simp only [Act.put, sA, sB, sC, i64_w, i32_w]
            rfl
           refine one_ (i := 1) (N := some 45) (bs 45 3) rfl rfl (one_of HT_.out (by kernel_rfl)) (by decide) (fun K hK => ?_); refine goes_ Try.func27 (by kernel_rfl) rfl #[.agg #[.slice Ao24 t481.length co24, .int .i64 t484, .int .i64 t485]] (by rfl) rfl rfl (by (try simp only [List.map_toArray, List.map_cons, List.map_nil]); first | done | rfl | (simp only [List.length_drop, List.length_take]; rfl)) ?_
           with_reducible refine (drive_May.calls _ _ t481 t484 t485 true _ ?side1 ?side2 A27.out).mono ?_
           (case side1 => repeat (first | exact (Kd.V_reads' HO483.out).2.2 | (with_reducible refine Kd.C_alloc ?_ _) | (with_reducible refine Kd.C_drewN ?_ _) | (with_reducible refine Kd.C_drew ?_)))
           (case side2 => exact (Kd.V_reads' HO483.out).2.1)
           rintro e w43 ⟨rfl, hb⟩
           refine ⟨_, rfl, ?_⟩; have n0_ := zA (Kd.V_below HO483.out hb); have n1_ := zA (bK BK477.out hb); have n2_ := zA (bK BK487.out hb); have n3_ := zA (below_step (by repeat (first | (with_reducible first | exact HB.out | apply bL | apply bP | apply bD | refine bS ?_ GE477.out | refine bS ?_ GE487.out) | exact HB.out)) hb); clear HO483; clear BK477; clear BK487; clear HB; have HO483 := n0_; have BK477 := n1_; have BK487 := n2_; have HB := n3_; clear n0_ n1_ n2_ n3_
           (try clear hb)
           (try clear hb2)
           (try clear hk)
           (try clear hi)
           refine hK.out _ _ ⟨(blk_cell BK487.out 0).trans rfl, (blk_cell BK487.out 1).trans rfl, (blk_cell BK487.out 2).trans rfl, (blk_cell BK477.out 0).trans rfl, (blk_cell BK477.out 1).trans rfl, (blk_cell BK477.out 2).trans rfl⟩ (fun hHeld => ?_); clear hK K; refine norm_ (a' := ?_) ?_ ?_; rotate_left
           ·show Act.put _ (some 45) _ = _
            simp only [Act.put, sA, sB, sC, i64_w, i32_w]
            rfl
           refine pure_ (i := 2) (N := some 46) (v := ?_) (a' := ?_) (bs 45 7) rfl rfl (any_of HT_.out (by kernel_rfl)) (fun _ _ _ h => h) (Or.inl ⟨by rfl, ?_⟩) ?_ ?_; rotate_left
           ·intro w'
            go_simp
            with_reducible rfl
           rotate_left
           ·simp only [Act.put, sA, sB, sC, i64_w, i32_w]
            rfl
           refine pure_ (i := 3) (N := some 47) (v := ?_) (a' := ?_) (bs 45 15) rfl rfl (any_of HT_.out (by kernel_rfl)) (fun _ _ _ h => h) (Or.inl ⟨by rfl, ?_⟩) ?_ ?_; rotate_left
           ·intro w'
            go_simp
            with_reducible rfl
           rotate_left
           ·simp only [Act.put, sA, sB, sC, i64_w, i32_w]
            rfl
           refine pure_ (i := 4) (N := some 48) (v := ?_) (a' := ?_) (bs 45 31) rfl rfl (any_of HT_.out (by kernel_rfl)) (fun _ _ _ h => h) (Or.inl ⟨by rfl, ?_⟩) ?_ ?_; rotate_left
           ·intro w'
            go_simp
            with_reducible rfl
           rotate_left
           ·simp only [Act.put, sA, sB, sC, i64_w, i32_w]
            rfl
           refine take_ (i := 5) (N := some 49) (v := ?_) (a' := ?_) (bs 45 63) rfl rfl (take_ofW HT_.out HW_.out (by kernel_rfl)) (fun _ _ _ h => h) (Or.inl ⟨by rfl, ?_⟩) hHeld ?_ ?_; rotate_left
           ·rintro w' ⟨s0, s1, s2, s3, s4, s5⟩
            go_simp
            with_reducible rfl
           rotate_left
           ·simp only [Act.put, sA, sB, sC, i64_w, i32_w]
            rfl
           refine pure_ (i := 6) (N := some 50) (v := ?_) (a' := ?_) (bs 45 127) rfl rfl (any_of HT_.out (by kernel_rfl)) (fun _ _ _ h => h) (Or.inl ⟨by rfl, ?_⟩) ?_ ?_; rotate_left
           ·intro w'
            go_simp
            with_reducible rfl
           rotate_left
           ·simp only [Act.put, sA, sB, sC, i64_w, i32_w]
            rfl
           refine pure_ (i := 7) (N := some 51) (v := ?_) (a' := ?_) (bs 45 255) rfl rfl (any_of HT_.out (by kernel_rfl)) (fun _ _ _ h => h) (Or.inl ⟨by rfl, ?_⟩) ?_ ?_; rotate_left
           ·intro w'
            go_simp
            with_reducible rfl
           rotate_left
           ·simp only [Act.put, sA, sB, sC, i64_w, i32_w]
            rfl
           refine pure_ (i := 8) (N := some 52) (v := ?_) (a' := ?_) (bs 45 511) rfl rfl (any_of HT_.out (by kernel_rfl)) (fun _ _ _ h => h) (Or.inl ⟨by rfl, ?_⟩) ?_ ?_; rotate_left
           ·intro w'
            go_simp
            with_reducible rfl
           rotate_left
           ·simp only [Act.put, sA, sB, sC, i64_w, i32_w]
            rfl
           refine pure_ (i := 9) (N := some 53) (v := ?_) (a' := ?_) (bs 45 1023) rfl rfl (any_of HT_.out (by kernel_rfl)) (fun _ _ _ h => h) (Or.inl ⟨by rfl, ?_⟩) ?_ ?_; rotate_left
           ·intro w'
            go_simp
            with_reducible rfl
           rotate_left
           ·simp only [Act.put, sA, sB, sC, i64_w, i32_w]
            rfl
           refine pure_ (i := 11) (N := some 55) (v := ?_) (a' := ?_) (bs 45 3071) rfl rfl (any_of HT_.out (by kernel_rfl)) (fun _ _ _ h => h) (Or.inl ⟨by rfl, ?_⟩) ?_ ?_; rotate_left
           ·intro w'
            go_simp
            with_reducible rfl
           rotate_left
           ·simp only [Act.put, sA, sB, sC, i64_w, i32_w]
            rfl
           refine take_ (i := 10) (N := some 54) (v := ?_) (a' := ?_) (bs 45 4095) rfl rfl (take_ofW HT_.out HW_.out (by kernel_rfl)) (fun _ _ _ h => h) (Or.inl ⟨by rfl, ?_⟩) hHeld ?_ ?_; rotate_left
           ·rintro w' ⟨s0, s1, s2, s3, s4, s5⟩
            go_simp
            with_reducible rfl
           rotate_left
           ·simp only [Act.put, sA, sB, sC, i64_w, i32_w]
            rfl
           refine take_ (i := 12) (N := some 56) (v := ?_) (a' := ?_) (bs 45 8191) rfl rfl (take_ofW HT_.out HW_.out (by kernel_rfl)) (fun _ _ _ h => h) (Or.inl ⟨by rfl, ?_⟩) hHeld ?_ ?_; rotate_left
           ·rintro w' ⟨s0, s1, s2, s3, s4, s5⟩
            go_simp
            with_reducible rfl
           rotate_left
           ·simp only [Act.put, sA, sB, sC, i64_w, i32_w]
            rfl
           refine pure_ (i := 13) (N := some 57) (v := ?_) (a' := ?_) (bs 45 16383) rfl rfl (any_of HT_.out (by kernel_rfl)) (fun _ _ _ h => h) (Or.inl ⟨by rfl, ?_⟩) ?_ ?_; rotate_left
           ·intro w'
            go_simp
            with_reducible rfl
           rotate_left
           ·simp only [Act.put, sA, sB, sC, i64_w, i32_w]
            rfl
           refine pure_ (i := 14) (N := some 58) (v := ?_) (a' := ?_) (bs 45 32767) rfl rfl (any_of HT_.out (by kernel_rfl)) (fun _ _ _ h => h) (Or.inl ⟨by rfl, ?_⟩) ?_ ?_; rotate_left
           ·intro w'
            go_simp
            with_reducible rfl
           rotate_left
           ·simp only [Act.put, sA, sB, sC, i64_w, i32_w]
            rfl
           refine pure_ (i := 15) (N := some 59) (v := ?_) (a' := ?_) (bs 45 65535) rfl rfl (any_of HT_.out (by kernel_rfl)) (fun _ _ _ h => h) (Or.inl ⟨by rfl, ?_⟩) ?_ ?_; rotate_left
           ·intro w'
            go_simp
            with_reducible rfl
           rotate_left
           ·simp only [Act.put, sA, sB, sC, i64_w, i32_w]
            rfl
           refine pure_ (i := 16) (N := some 60) (v := ?_) (a' := ?_) (bs 45 131071) rfl rfl (any_of HT_.out (by kernel_rfl)) (fun _ _ _ h => h) (Or.inl ⟨by rfl, ?_⟩) ?_ ?_; rotate_left
           ·intro w'
            go_simp
            with_reducible rfl
           rotate_left
           ·simp only [Act.put, sA, sB, sC, i64_w, i32_w]
            rfl
           refine pure_ (i := 18) (N := some 62) (v := ?_) (a' := ?_) (bs 45 393215) rfl rfl (any_of HT_.out (by kernel_rfl)) (fun _ _ _ h => h) (Or.inl ⟨by rfl, ?_⟩) ?_ ?_; rotate_left
           ·intro w'
            go_simp
            with_reducible rfl
           rotate_left
           ·simp only [Act.put, sA, sB, sC, i64_w, i32_w]
            rfl
           refine take_ (i := 17) (N := some 61) (v := ?_) (a' := ?_) (bs 45 524287) rfl rfl (take_ofW HT_.out HW_.out (by kernel_rfl)) (fun _ _ _ h => h) (Or.inl ⟨by rfl, ?_⟩) hHeld ?_ ?_; rotate_left
           ·rintro w' ⟨s0, s1, s2, s3, s4, s5⟩
            go_simp
            with_reducible rfl
           rotate_left
           ·simp only [Act.put, sA, sB, sC, i64_w, i32_w]
            rfl
           refine take_ (i := 19) (N := some 63) (v := ?_) (a' := ?_) (bs 45 1048575) rfl rfl (take_ofW HT_.out HW_.out (by kernel_rfl)) (fun _ _ _ h => h) (Or.inl ⟨by rfl, ?_⟩) hHeld ?_ ?_; rotate_left
           ·rintro w' ⟨s0, s1, s2, s3, s4, s5⟩
            go_simp
            with_reducible rfl
           rotate_left
           ·simp only [Act.put, sA, sB, sC, i64_w, i32_w]
            rfl
           refine pure_ (i := 20) (N := some 64) (v := ?_) (a' := ?_) (bs 45 2097151) rfl rfl (any_of HT_.out (by kernel_rfl)) (fun _ _ _ h => h) (Or.inl ⟨by rfl, ?_⟩) ?_ ?_; rotate_left
           ·intro w'
            go_simp
            with_reducible rfl
           rotate_left
           ·simp only [Act.put, sA, sB, sC, i64_w, i32_w]
            rfl
           refine pure_ (i := 21) (N := some 65) (v := ?_) (a' := ?_) (bs 45 4194303) rfl rfl (any_of HT_.out (by kernel_rfl)) (fun _ _ _ h => h) (Or.inl ⟨by rfl, ?_⟩) ?_ ?_; rotate_left
           ·intro w'
            go_simp
            with_reducible rfl
           rotate_left
           ·simp only [Act.put, sA, sB, sC, i64_w, i32_w]
            rfl
           refine pure_ (i := 22) (N := some 66) (v := ?_) (a' := ?_) (bs 45 8388607) rfl rfl (any_of HT_.out (by kernel_rfl)) (fun _ _ _ h => h) (Or.inl ⟨by rfl, ?_⟩) ?_ ?_; rotate_left
           ·intro w'
            go_simp
            with_reducible rfl
           rotate_left
           ·simp only [Act.put, sA, sB, sC, i64_w, i32_w]
            rfl
           refine pure_ (i := 23) (N := some 67) (v := ?_) (a' := ?_) (bs 45 16777215) rfl rfl (any_of HT_.out (by kernel_rfl)) (fun _ _ _ h => h) (Or.inl ⟨by rfl, ?_⟩) ?_ ?_; rotate_left
           ·intro w'
            go_simp
            with_reducible rfl
           rotate_left
           ·simp only [Act.put, sA, sB, sC, i64_w, i32_w]
            rfl
           refine pure_ (i := 24) (N := some 68) (v := ?_) (a' := ?_) (bs 45 33554431) rfl rfl (any_of HT_.out (by kernel_rfl)) (fun _ _ _ h => h) (Or.inl ⟨by rfl, ?_⟩) ?_ ?_; rotate_left
           ·intro w'
            go_simp
            with_reducible rfl
           rotate_left
           ·simp only [Act.put, sA, sB, sC, i64_w, i32_w]
            rfl
           refine pure_ (i := 27) (N := some 71) (v := ?_) (a' := ?_) (bs 45 167772159) rfl rfl (any_of HT_.out (by kernel_rfl)) (fun _ _ _ h => h) (Or.inl ⟨by rfl, ?_⟩) ?_ ?_; rotate_left
           ·intro w'
            go_simp
            with_reducible rfl
           rotate_left
           ·simp only [Act.put, sA, sB, sC, i64_w, i32_w]
            rfl
           refine take_ (i := 25) (N := some 69) (v := ?_) (a' := ?_) (bs 45 201326591) rfl rfl (take_ofW HT_.out HW_.out (by kernel_rfl)) (fun _ _ _ h => h) (Or.inl ⟨by rfl, ?_⟩) hHeld ?_ ?_; rotate_left
           ·rintro w' ⟨s0, s1, s2, s3, s4, s5⟩
            go_simp
            with_reducible rfl
           rotate_left
           ·simp only [Act.put, sA, sB, sC, i64_w, i32_w]
            rfl
           refine pure_ (i := 26) (N := some 70) (v := ?_) (a' := ?_) (bs 45 268435455) rfl rfl (any_of HT_.out (by kernel_rfl)) (fun _ _ _ h => h) (Or.inl ⟨by rfl, ?_⟩) ?_ ?_; rotate_left
           ·intro w'
            go_simp
            with_reducible rfl
           rotate_left
           ·simp only [Act.put, sA, sB, sC, i64_w, i32_w]
            rfl
           refine take_ (i := 28) (N := some 72) (v := ?_) (a' := ?_) (bs 45 536870911) rfl rfl (take_ofW HT_.out HW_.out (by kernel_rfl)) (fun _ _ _ h => h) (Or.inl ⟨by rfl, ?_⟩) hHeld ?_ ?_; rotate_left
           ·rintro w' ⟨s0, s1, s2, s3, s4, s5⟩
            go_simp
            with_reducible rfl
           rotate_left
           ·simp only [Act.put, sA, sB, sC, i64_w, i32_w]
            rfl
           refine pure_ (i := 29) (N := some 73) (v := ?_) (a' := ?_) (bs 45 1073741823) rfl rfl (any_of HT_.out (by kernel_rfl)) (fun _ _ _ h => h) (Or.inl ⟨by rfl, ?_⟩) ?_ ?_; rotate_left
           ·intro w'
            go_simp
            with_reducible rfl
           rotate_left
           ·simp only [Act.put, sA, sB, sC, i64_w, i32_w]
            rfl
           refine pure_ (i := 30) (N := some 74) (v := ?_) (a' := ?_) (bs 45 2147483647) rfl rfl (any_of HT_.out (by kernel_rfl)) (fun _ _ _ h => h) (Or.inl ⟨by rfl, ?_⟩) ?_ ?_; rotate_left
           ·intro w'
            go_simp
            with_reducible rfl
           rotate_left
           ·simp only [Act.put, sA, sB, sC, i64_w, i32_w]
            rfl
           refine pure_ (i := 31) (N := some 75) (v := ?_) (a' := ?_) (bs 45 4294967295) rfl rfl (any_of HT_.out (by kernel_rfl)) (fun _ _ _ h => h) (Or.inl ⟨by rfl, ?_⟩) ?_ ?_; rotate_left
           ·intro w'
            go_simp
            with_reducible rfl
           rotate_left
           ·simp only [Act.put, sA, sB, sC, i64_w, i32_w]
            rfl
           refine pure_ (i := 32) (N := some 76) (v := ?_) (a' := ?_) (bs 45 8589934591) rfl rfl (any_of HT_.out (by kernel_rfl)) (fun _ _ _ h => h) (Or.inl ⟨by rfl, ?_⟩) ?_ ?_; rotate_left
           ·intro w'
            go_simp
            with_reducible rfl
           rotate_left
           ·simp only [Act.put, sA, sB, sC, i64_w, i32_w]
            rfl
           refine pure_ (i := 33) (N := some 77) (v := undef) (a' := ?_) (bs 45 17179869183) rfl rfl (any_of HT_.out (by kernel_rfl)) (fun _ _ _ h => h) (Or.inr ⟨by rfl, rfl⟩) ?_ ?_; rotate_left
           ·simp only [Act.put, sA, sB, sC, i64_w, i32_w]
            rfl
           refine pure_ (i := 34) (N := some 78) (v := undef) (a' := ?_) (bs 45 34359738367) rfl rfl (any_of HT_.out (by kernel_rfl)) (fun _ _ _ h => h) (Or.inr ⟨by rfl, rfl⟩) ?_ ?_; rotate_left
           ·simp only [Act.put, sA, sB, sC, i64_w, i32_w]
            rfl
           refine pure_ (i := 35) (N := some 79) (v := undef) (a' := ?_) (bs 45 68719476735) rfl rfl (any_of HT_.out (by kernel_rfl)) (fun _ _ _ h => h) (Or.inr ⟨by rfl, rfl⟩) ?_ ?_; rotate_left
           ·simp only [Act.put, sA, sB, sC, i64_w, i32_w]
            rfl
           refine pure_ (i := 36) (N := some 80) (v := undef) (a' := ?_) (bs 45 137438953471) rfl rfl (any_of HT_.out (by kernel_rfl)) (fun _ _ _ h => h) (Or.inr ⟨by rfl, rfl⟩) ?_ ?_; rotate_left
           ·simp only [Act.put, sA, sB, sC, i64_w, i32_w]
            rfl
           refine pure_ (i := 37) (N := some 81) (v := undef) (a' := ?_) (bs 45 274877906943) rfl rfl (any_of HT_.out (by kernel_rfl)) (fun _ _ _ h => h) (Or.inr ⟨by rfl, rfl⟩) ?_ ?_; rotate_left
           ·simp only [Act.put, sA, sB, sC, i64_w, i32_w]
            rfl
           refine pure_ (i := 38) (N := some 82) (v := undef) (a' := ?_) (bs 45 549755813887) rfl rfl (any_of HT_.out (by kernel_rfl)) (fun _ _ _ h => h) (Or.inr ⟨by rfl, rfl⟩) ?_ ?_; rotate_left
           ·simp only [Act.put, sA, sB, sC, i64_w, i32_w]
            rfl
           refine pure_ (i := 39) (N := some 83) (v := undef) (a' := ?_) (bs 45 1099511627775) rfl rfl (any_of HT_.out (by kernel_rfl)) (fun _ _ _ h => h) (Or.inr ⟨by rfl, rfl⟩) ?_ ?_; rotate_left
           ·simp only [Act.put, sA, sB, sC, i64_w, i32_w]
            rfl
           refine pure_ (i := 40) (N := some 84) (v := undef) (a' := ?_) (bs 45 2199023255551) rfl rfl (any_of HT_.out (by kernel_rfl)) (fun _ _ _ h => h) (Or.inr ⟨by rfl, rfl⟩) ?_ ?_; rotate_left
           ·simp only [Act.put, sA, sB, sC, i64_w, i32_w]
            rfl
           refine pure_ (i := 41) (N := some 85) (v := undef) (a' := ?_) (bs 45 4398046511103) rfl rfl (any_of HT_.out (by kernel_rfl)) (fun _ _ _ h => h) (Or.inr ⟨by rfl, rfl⟩) ?_ ?_; rotate_left
           ·simp only [Act.put, sA, sB, sC, i64_w, i32_w]
            rfl
           refine pure_ (i := 42) (N := some 86) (v := undef) (a' := ?_) (bs 45 8796093022207) rfl rfl (any_of HT_.out (by kernel_rfl)) (fun _ _ _ h => h) (Or.inr ⟨by rfl, rfl⟩) ?_ ?_; rotate_left
           ·simp only [Act.put, sA, sB, sC, i64_w, i32_w]
            rfl
           refine pure_ (i := 43) (N := some 87) (v := undef) (a' := ?_) (bs 45 17592186044415) rfl rfl (any_of HT_.out (by kernel_rfl)) (fun _ _ _ h => h) (Or.inr ⟨by rfl, rfl⟩) ?_ ?_; rotate_left
           ·simp only [Act.put, sA, sB, sC, i64_w, i32_w]
            rfl
           refine pure_ (i := 44) (N := some 88) (v := ?_) (a' := ?_) (bs 45 35184372088831) rfl rfl (any_of HT_.out (by kernel_rfl)) (fun _ _ _ h => h) (Or.inl ⟨by rfl, ?_⟩) ?_ ?_; rotate_left
           ·intro w'
            go_simp
            with_reducible rfl
           rotate_left
           ·simp only [Act.put, sA, sB, sC, i64_w, i32_w]
            rfl
           refine done_ (done_of HT_.out (by kernel_rfl)) ?_
           try go_wp2
           go_meet
           case rel => exact ⟨_, (true), (by first | rfl | (simp; done) | (simp [*]; done)), H', ⟨by have := HJ5.out; first | omega | exact Nat.le_refl _⟩, ⟨by exact HO483.out⟩, ⟨by exact BK477.out⟩, ⟨by exact BK487.out⟩, ⟨by repeat (first | (with_reducible first | exact HB.out | apply bL | apply bP | apply bD | refine bS ?_ GE477.out | refine bS ?_ GE487.out) | exact HB.out)⟩⟩
         ·as_aux_lemma =>
          rw [if_neg c34] at H
          have c34b0 : (t485 == (wrap64 (a0_2 + 1))) = false := beq_eq_false_iff_ne.mpr c34; have c34b1 : (t485 != (wrap64 (a0_2 + 1))) = true := bne_iff_ne.mpr c34; have H' := zA H; clear H
          try go_wp2
          have n0_ : Aside0 (Kd.V k41 41 (((w23.setCell ⟨gb487, 0, none⟩ (.slice Ao24 t481.length co24)).setCell ⟨gb487, 1, none⟩ (.int .i64 t484)).setCell ⟨gb487, 2, none⟩ (.int .i64 t485)) w.heap.size (fun k_ => k_ ≠ gb477 ∧ k_ ≠ gb487) (.slice Ao24 t481.length co24) t481) := ⟨by exact Kd.V_mono (Kd.V_far (p := ⟨gb487, 2, none⟩) (Kd.V_far (p := ⟨gb487, 1, none⟩) (Kd.V_far (p := ⟨gb487, 0, none⟩) (Kd.V_mono HO483.out (fun k_ hk => (⟨hk, hk.2⟩ : _ ∧ k_ ≠ gb487))) (fun _ hk => hk.2) (.slice Ao24 t481.length co24)) (fun _ hk => hk.2) (.int .i64 t484)) (fun _ hk => hk.2) (.int .i64 t485)) (fun _ hk => ⟨hk.1.1, hk.1.2⟩)⟩; have n1_ : Aside0 ((((w23.setCell ⟨gb487, 0, none⟩ (.slice Ao24 t481.length co24)).setCell ⟨gb487, 1, none⟩ (.int .i64 t484)).setCell ⟨gb487, 2, none⟩ (.int .i64 t485)).heap[gb477]? = some (.cells #[.slice A0_0 l0_0.length c0_0, .int .i64 a0_1, .int .i64 a0_2] 24 (0, 0))) := ⟨by refine blk_far ?_ NB477_487.out _; refine blk_far ?_ NB477_487.out _; refine blk_far ?_ NB477_487.out _; exact BK477.out⟩; have n2_ : Aside0 ((((w23.setCell ⟨gb487, 0, none⟩ (.slice Ao24 t481.length co24)).setCell ⟨gb487, 1, none⟩ (.int .i64 t484)).setCell ⟨gb487, 2, none⟩ (.int .i64 t485)).heap[gb487]? = some (.cells #[.slice Ao24 t481.length co24, .int .i64 t484, .int .i64 t485] 24 (0, 0))) := ⟨by refine blk_put (cs := #[.slice Ao24 t481.length co24, .int .i64 t484, .int .i64 0]) ?_ 2 _ rfl; refine blk_put (cs := #[.slice Ao24 t481.length co24, .int .i64 0, .int .i64 0]) ?_ 1 _ rfl; refine blk_put (cs := #[.slice none 0 0, .int .i64 0, .int .i64 0]) ?_ 0 _ rfl; exact BK487.out⟩; have n3_ : Aside0 (Below w.heap.size w (((w23.setCell ⟨gb487, 0, none⟩ (.slice Ao24 t481.length co24)).setCell ⟨gb487, 1, none⟩ (.int .i64 t484)).setCell ⟨gb487, 2, none⟩ (.int .i64 t485))) := ⟨by repeat (first | (with_reducible first | exact HB.out | apply bL | apply bP | apply bD | refine bS ?_ GE477.out | refine bS ?_ GE487.out) | exact HB.out)⟩
          (try clear HO483)
          (try clear BK477)
          (try clear BK487)
          (try clear HB)
          generalize (((w23.setCell ⟨gb487, 0, none⟩ (.slice Ao24 t481.length co24)).setCell ⟨gb487, 1, none⟩ (.int .i64 t484)).setCell ⟨gb487, 2, none⟩ (.int .i64 t485)) = w44 at n0_ n1_ n2_ n3_ ⊢
          have HO483 := n0_; have BK477 := n1_; have BK487 := n2_; have HB := n3_; clear n0_ n1_ n2_ n3_; have n0_ := zA (Kd.V_drew HO483.out); have n1_ := zA (bW BK477.out); have n2_ := zA (bW BK487.out); have n3_ := zA (bD HB.out); clear HO483; clear BK477; clear BK487; clear HB; have HO483 := n0_; have BK477 := n1_; have BK487 := n2_; have HB := n3_; clear n0_ n1_ n2_ n3_; refine start_ (n := 45) (S := fun w' => w'.cell? ⟨gb487, 0, none⟩ = some (.slice Ao24 t481.length co24) ∧ w'.cell? ⟨gb487, 1, none⟩ = some (.int .i64 t484) ∧ w'.cell? ⟨gb487, 2, none⟩ = some (.int .i64 t485) ∧ w'.cell? ⟨gb477, 0, none⟩ = some (.slice A0_0 l0_0.length c0_0) ∧ w'.cell? ⟨gb477, 1, none⟩ = some (.int .i64 a0_1) ∧ w'.cell? ⟨gb477, 2, none⟩ = some (.int .i64 a0_2)) (ds := []) (bs 45 0) (by kernel_rfl) rfl rfl ⟨(blk_cell BK487.out 0).trans rfl, (blk_cell BK487.out 1).trans rfl, (blk_cell BK487.out 2).trans rfl, (blk_cell BK477.out 0).trans rfl, (blk_cell BK477.out 1).trans rfl, (blk_cell BK477.out 2).trans rfl⟩ (fun hHeld => ?_); refine with_tabW reelkeeperlaw13_DriveWrites.tab8 reelkeeperlaw13_DriveWrites.bits8 (fun HT_ HW_ => ?_)
          generalize w44.drew = w45 at HO483 BK477 BK487 HB hHeld ⊢
          refine take_ (i := 0) (N := some 44) (v := ?_) (a' := ?_) (bs 45 1) rfl rfl (take_ofW HT_.out HW_.out (by kernel_rfl)) (fun _ _ _ h => h) (Or.inl ⟨by rfl, ?_⟩) hHeld ?_ ?_; rotate_left
          ·rintro w' ⟨s0, s1, s2, s3, s4, s5⟩
           go_simp
           with_reducible rfl
          rotate_left
          ·simp only [Act.put, sA, sB, sC, i64_w, i32_w]
           rfl
          refine one_ (i := 1) (N := some 45) (bs 45 3) rfl rfl (one_of HT_.out (by kernel_rfl)) (by decide) (fun K hK => ?_); refine goes_ Try.func27 (by kernel_rfl) rfl #[.agg #[.slice Ao24 t481.length co24, .int .i64 t484, .int .i64 t485]] (by rfl) rfl rfl (by (try simp only [List.map_toArray, List.map_cons, List.map_nil]); first | done | rfl | (simp only [List.length_drop, List.length_take]; rfl)) ?_
          with_reducible refine (drive_May.calls _ _ t481 t484 t485 true _ ?side1 ?side2 A27.out).mono ?_
          (case side1 => repeat (first | exact (Kd.V_reads' HO483.out).2.2 | (with_reducible refine Kd.C_alloc ?_ _) | (with_reducible refine Kd.C_drewN ?_ _) | (with_reducible refine Kd.C_drew ?_)))
          (case side2 => exact (Kd.V_reads' HO483.out).2.1)
          rintro e w46 ⟨rfl, hb⟩
          refine ⟨_, rfl, ?_⟩; have n0_ := zA (Kd.V_below HO483.out hb); have n1_ := zA (bK BK477.out hb); have n2_ := zA (bK BK487.out hb); have n3_ := zA (below_step (by repeat (first | (with_reducible first | exact HB.out | apply bL | apply bP | apply bD | refine bS ?_ GE477.out | refine bS ?_ GE487.out) | exact HB.out)) hb); clear HO483; clear BK477; clear BK487; clear HB; have HO483 := n0_; have BK477 := n1_; have BK487 := n2_; have HB := n3_; clear n0_ n1_ n2_ n3_
          (try clear hb)
          (try clear hb2)
          (try clear hk)
          (try clear hi)
          refine hK.out _ _ ⟨(blk_cell BK487.out 0).trans rfl, (blk_cell BK487.out 1).trans rfl, (blk_cell BK487.out 2).trans rfl, (blk_cell BK477.out 0).trans rfl, (blk_cell BK477.out 1).trans rfl, (blk_cell BK477.out 2).trans rfl⟩ (fun hHeld => ?_); clear hK K; refine norm_ (a' := ?_) ?_ ?_; rotate_left
          ·show Act.put _ (some 45) _ = _
           simp only [Act.put, sA, sB, sC, i64_w, i32_w]
           rfl
          refine pure_ (i := 2) (N := some 46) (v := ?_) (a' := ?_) (bs 45 7) rfl rfl (any_of HT_.out (by kernel_rfl)) (fun _ _ _ h => h) (Or.inl ⟨by rfl, ?_⟩) ?_ ?_; rotate_left
          ·intro w'
           go_simp
           with_reducible rfl
          rotate_left
          ·simp only [Act.put, sA, sB, sC, i64_w, i32_w]
           rfl
          refine pure_ (i := 3) (N := some 47) (v := ?_) (a' := ?_) (bs 45 15) rfl rfl (any_of HT_.out (by kernel_rfl)) (fun _ _ _ h => h) (Or.inl ⟨by rfl, ?_⟩) ?_ ?_; rotate_left
          ·intro w'
           go_simp
           with_reducible rfl
          rotate_left
          ·simp only [Act.put, sA, sB, sC, i64_w, i32_w]
           rfl
          refine pure_ (i := 4) (N := some 48) (v := ?_) (a' := ?_) (bs 45 31) rfl rfl (any_of HT_.out (by kernel_rfl)) (fun _ _ _ h => h) (Or.inl ⟨by rfl, ?_⟩) ?_ ?_; rotate_left
          ·intro w'
           go_simp
           with_reducible rfl
          rotate_left
          ·simp only [Act.put, sA, sB, sC, i64_w, i32_w]
           rfl
          refine take_ (i := 5) (N := some 49) (v := ?_) (a' := ?_) (bs 45 63) rfl rfl (take_ofW HT_.out HW_.out (by kernel_rfl)) (fun _ _ _ h => h) (Or.inl ⟨by rfl, ?_⟩) hHeld ?_ ?_; rotate_left
          ·rintro w' ⟨s0, s1, s2, s3, s4, s5⟩
           go_simp
           with_reducible rfl
          rotate_left
          ·simp only [Act.put, sA, sB, sC, i64_w, i32_w]
           rfl
          refine pure_ (i := 6) (N := some 50) (v := ?_) (a' := ?_) (bs 45 127) rfl rfl (any_of HT_.out (by kernel_rfl)) (fun _ _ _ h => h) (Or.inl ⟨by rfl, ?_⟩) ?_ ?_; rotate_left
          ·intro w'
           go_simp
           with_reducible rfl
          rotate_left
          ·simp only [Act.put, sA, sB, sC, i64_w, i32_w]
           rfl
          refine pure_ (i := 7) (N := some 51) (v := ?_) (a' := ?_) (bs 45 255) rfl rfl (any_of HT_.out (by kernel_rfl)) (fun _ _ _ h => h) (Or.inl ⟨by rfl, ?_⟩) ?_ ?_; rotate_left
          ·intro w'
           go_simp
           with_reducible rfl
          rotate_left
          ·simp only [Act.put, sA, sB, sC, i64_w, i32_w]
           rfl
          refine pure_ (i := 8) (N := some 52) (v := ?_) (a' := ?_) (bs 45 511) rfl rfl (any_of HT_.out (by kernel_rfl)) (fun _ _ _ h => h) (Or.inl ⟨by rfl, ?_⟩) ?_ ?_; rotate_left
          ·intro w'
           go_simp
           with_reducible rfl
          rotate_left
          ·simp only [Act.put, sA, sB, sC, i64_w, i32_w]
           rfl
          refine pure_ (i := 9) (N := some 53) (v := ?_) (a' := ?_) (bs 45 1023) rfl rfl (any_of HT_.out (by kernel_rfl)) (fun _ _ _ h => h) (Or.inl ⟨by rfl, ?_⟩) ?_ ?_; rotate_left
          ·intro w'
           go_simp
           with_reducible rfl
          rotate_left
          ·simp only [Act.put, sA, sB, sC, i64_w, i32_w]
           rfl
          refine pure_ (i := 11) (N := some 55) (v := ?_) (a' := ?_) (bs 45 3071) rfl rfl (any_of HT_.out (by kernel_rfl)) (fun _ _ _ h => h) (Or.inl ⟨by rfl, ?_⟩) ?_ ?_; rotate_left
          ·intro w'
           go_simp
           with_reducible rfl
          rotate_left
          ·simp only [Act.put, sA, sB, sC, i64_w, i32_w]
           rfl
          refine take_ (i := 10) (N := some 54) (v := ?_) (a' := ?_) (bs 45 4095) rfl rfl (take_ofW HT_.out HW_.out (by kernel_rfl)) (fun _ _ _ h => h) (Or.inl ⟨by rfl, ?_⟩) hHeld ?_ ?_; rotate_left
          ·rintro w' ⟨s0, s1, s2, s3, s4, s5⟩
           go_simp
           with_reducible rfl
          rotate_left
          ·simp only [Act.put, sA, sB, sC, i64_w, i32_w]
           rfl
          refine take_ (i := 12) (N := some 56) (v := ?_) (a' := ?_) (bs 45 8191) rfl rfl (take_ofW HT_.out HW_.out (by kernel_rfl)) (fun _ _ _ h => h) (Or.inl ⟨by rfl, ?_⟩) hHeld ?_ ?_; rotate_left
          ·rintro w' ⟨s0, s1, s2, s3, s4, s5⟩
           go_simp
           with_reducible rfl
          rotate_left
          ·simp only [Act.put, sA, sB, sC, i64_w, i32_w]
           rfl
          refine pure_ (i := 13) (N := some 57) (v := ?_) (a' := ?_) (bs 45 16383) rfl rfl (any_of HT_.out (by kernel_rfl)) (fun _ _ _ h => h) (Or.inl ⟨by rfl, ?_⟩) ?_ ?_; rotate_left
          ·intro w'
           go_simp
           with_reducible rfl
          rotate_left
          ·simp only [Act.put, sA, sB, sC, i64_w, i32_w]
           rfl
          refine pure_ (i := 14) (N := some 58) (v := ?_) (a' := ?_) (bs 45 32767) rfl rfl (any_of HT_.out (by kernel_rfl)) (fun _ _ _ h => h) (Or.inl ⟨by rfl, ?_⟩) ?_ ?_; rotate_left
          ·intro w'
           go_simp
           with_reducible rfl
          rotate_left
          ·simp only [Act.put, sA, sB, sC, i64_w, i32_w]
           rfl
          refine pure_ (i := 15) (N := some 59) (v := ?_) (a' := ?_) (bs 45 65535) rfl rfl (any_of HT_.out (by kernel_rfl)) (fun _ _ _ h => h) (Or.inl ⟨by rfl, ?_⟩) ?_ ?_; rotate_left
          ·intro w'
           go_simp
           with_reducible rfl
          rotate_left
          ·simp only [Act.put, sA, sB, sC, i64_w, i32_w]
           rfl
          refine pure_ (i := 16) (N := some 60) (v := ?_) (a' := ?_) (bs 45 131071) rfl rfl (any_of HT_.out (by kernel_rfl)) (fun _ _ _ h => h) (Or.inl ⟨by rfl, ?_⟩) ?_ ?_; rotate_left
          ·intro w'
           go_simp
           with_reducible rfl
          rotate_left
          ·simp only [Act.put, sA, sB, sC, i64_w, i32_w]
           rfl
          refine pure_ (i := 18) (N := some 62) (v := ?_) (a' := ?_) (bs 45 393215) rfl rfl (any_of HT_.out (by kernel_rfl)) (fun _ _ _ h => h) (Or.inl ⟨by rfl, ?_⟩) ?_ ?_; rotate_left
          ·intro w'
           go_simp
           with_reducible rfl
          rotate_left
          ·simp only [Act.put, sA, sB, sC, i64_w, i32_w]
           rfl
          refine take_ (i := 17) (N := some 61) (v := ?_) (a' := ?_) (bs 45 524287) rfl rfl (take_ofW HT_.out HW_.out (by kernel_rfl)) (fun _ _ _ h => h) (Or.inl ⟨by rfl, ?_⟩) hHeld ?_ ?_; rotate_left
          ·rintro w' ⟨s0, s1, s2, s3, s4, s5⟩
           go_simp
           with_reducible rfl
          rotate_left
          ·simp only [Act.put, sA, sB, sC, i64_w, i32_w]
           rfl
          refine take_ (i := 19) (N := some 63) (v := ?_) (a' := ?_) (bs 45 1048575) rfl rfl (take_ofW HT_.out HW_.out (by kernel_rfl)) (fun _ _ _ h => h) (Or.inl ⟨by rfl, ?_⟩) hHeld ?_ ?_; rotate_left
          ·rintro w' ⟨s0, s1, s2, s3, s4, s5⟩
           go_simp
           with_reducible rfl
          rotate_left
          ·simp only [Act.put, sA, sB, sC, i64_w, i32_w]
           rfl
          refine pure_ (i := 20) (N := some 64) (v := ?_) (a' := ?_) (bs 45 2097151) rfl rfl (any_of HT_.out (by kernel_rfl)) (fun _ _ _ h => h) (Or.inl ⟨by rfl, ?_⟩) ?_ ?_; rotate_left
          ·intro w'
           go_simp
           with_reducible rfl
          rotate_left
          ·simp only [Act.put, sA, sB, sC, i64_w, i32_w]
           rfl
          refine pure_ (i := 21) (N := some 65) (v := ?_) (a' := ?_) (bs 45 4194303) rfl rfl (any_of HT_.out (by kernel_rfl)) (fun _ _ _ h => h) (Or.inl ⟨by rfl, ?_⟩) ?_ ?_; rotate_left
          ·intro w'
           go_simp
           with_reducible rfl
          rotate_left
          ·simp only [Act.put, sA, sB, sC, i64_w, i32_w]
           rfl
          refine pure_ (i := 22) (N := some 66) (v := ?_) (a' := ?_) (bs 45 8388607) rfl rfl (any_of HT_.out (by kernel_rfl)) (fun _ _ _ h => h) (Or.inl ⟨by rfl, ?_⟩) ?_ ?_; rotate_left
          ·intro w'
           go_simp
           with_reducible rfl
          rotate_left
          ·simp only [Act.put, sA, sB, sC, i64_w, i32_w]
           rfl
          refine pure_ (i := 23) (N := some 67) (v := ?_) (a' := ?_) (bs 45 16777215) rfl rfl (any_of HT_.out (by kernel_rfl)) (fun _ _ _ h => h) (Or.inl ⟨by rfl, ?_⟩) ?_ ?_; rotate_left
          ·intro w'
           go_simp
           with_reducible rfl
          rotate_left
          ·simp only [Act.put, sA, sB, sC, i64_w, i32_w]
           rfl
          refine pure_ (i := 24) (N := some 68) (v := undef) (a' := ?_) (bs 45 33554431) rfl rfl (any_of HT_.out (by kernel_rfl)) (fun _ _ _ h => h) (Or.inr ⟨by rfl, rfl⟩) ?_ ?_; rotate_left
          ·simp only [Act.put, sA, sB, sC, i64_w, i32_w]
           rfl
          refine pure_ (i := 25) (N := some 69) (v := undef) (a' := ?_) (bs 45 67108863) rfl rfl (any_of HT_.out (by kernel_rfl)) (fun _ _ _ h => h) (Or.inr ⟨by rfl, rfl⟩) ?_ ?_; rotate_left
          ·simp only [Act.put, sA, sB, sC, i64_w, i32_w]
           rfl
          refine pure_ (i := 26) (N := some 70) (v := undef) (a' := ?_) (bs 45 134217727) rfl rfl (any_of HT_.out (by kernel_rfl)) (fun _ _ _ h => h) (Or.inr ⟨by rfl, rfl⟩) ?_ ?_; rotate_left
          ·simp only [Act.put, sA, sB, sC, i64_w, i32_w]
           rfl
          refine pure_ (i := 27) (N := some 71) (v := undef) (a' := ?_) (bs 45 268435455) rfl rfl (any_of HT_.out (by kernel_rfl)) (fun _ _ _ h => h) (Or.inr ⟨by rfl, rfl⟩) ?_ ?_; rotate_left
          ·simp only [Act.put, sA, sB, sC, i64_w, i32_w]
           rfl
          refine pure_ (i := 28) (N := some 72) (v := undef) (a' := ?_) (bs 45 536870911) rfl rfl (any_of HT_.out (by kernel_rfl)) (fun _ _ _ h => h) (Or.inr ⟨by rfl, rfl⟩) ?_ ?_; rotate_left
          ·simp only [Act.put, sA, sB, sC, i64_w, i32_w]
           rfl
          refine pure_ (i := 29) (N := some 73) (v := undef) (a' := ?_) (bs 45 1073741823) rfl rfl (any_of HT_.out (by kernel_rfl)) (fun _ _ _ h => h) (Or.inr ⟨by rfl, rfl⟩) ?_ ?_; rotate_left
          ·simp only [Act.put, sA, sB, sC, i64_w, i32_w]
           rfl
          refine pure_ (i := 30) (N := some 74) (v := undef) (a' := ?_) (bs 45 2147483647) rfl rfl (any_of HT_.out (by kernel_rfl)) (fun _ _ _ h => h) (Or.inr ⟨by rfl, rfl⟩) ?_ ?_; rotate_left
          ·simp only [Act.put, sA, sB, sC, i64_w, i32_w]
           rfl
          refine pure_ (i := 31) (N := some 75) (v := ?_) (a' := ?_) (bs 45 4294967295) rfl rfl (any_of HT_.out (by kernel_rfl)) (fun _ _ _ h => h) (Or.inl ⟨by rfl, ?_⟩) ?_ ?_; rotate_left
          ·intro w'
           go_simp
           with_reducible rfl
          rotate_left
          ·simp only [Act.put, sA, sB, sC, i64_w, i32_w]
           rfl
          refine pure_ (i := 32) (N := some 76) (v := ?_) (a' := ?_) (bs 45 8589934591) rfl rfl (any_of HT_.out (by kernel_rfl)) (fun _ _ _ h => h) (Or.inl ⟨by rfl, ?_⟩) ?_ ?_; rotate_left
          ·intro w'
           go_simp
           with_reducible rfl
          rotate_left
          ·simp only [Act.put, sA, sB, sC, i64_w, i32_w]
           rfl
          refine pure_ (i := 33) (N := some 77) (v := undef) (a' := ?_) (bs 45 17179869183) rfl rfl (any_of HT_.out (by kernel_rfl)) (fun _ _ _ h => h) (Or.inr ⟨by rfl, rfl⟩) ?_ ?_; rotate_left
          ·simp only [Act.put, sA, sB, sC, i64_w, i32_w]
           rfl
          refine pure_ (i := 34) (N := some 78) (v := undef) (a' := ?_) (bs 45 34359738367) rfl rfl (any_of HT_.out (by kernel_rfl)) (fun _ _ _ h => h) (Or.inr ⟨by rfl, rfl⟩) ?_ ?_; rotate_left
          ·simp only [Act.put, sA, sB, sC, i64_w, i32_w]
           rfl
          refine pure_ (i := 35) (N := some 79) (v := undef) (a' := ?_) (bs 45 68719476735) rfl rfl (any_of HT_.out (by kernel_rfl)) (fun _ _ _ h => h) (Or.inr ⟨by rfl, rfl⟩) ?_ ?_; rotate_left
          ·simp only [Act.put, sA, sB, sC, i64_w, i32_w]
           rfl
          refine pure_ (i := 36) (N := some 80) (v := undef) (a' := ?_) (bs 45 137438953471) rfl rfl (any_of HT_.out (by kernel_rfl)) (fun _ _ _ h => h) (Or.inr ⟨by rfl, rfl⟩) ?_ ?_; rotate_left
          ·simp only [Act.put, sA, sB, sC, i64_w, i32_w]
           rfl
          refine pure_ (i := 37) (N := some 81) (v := undef) (a' := ?_) (bs 45 274877906943) rfl rfl (any_of HT_.out (by kernel_rfl)) (fun _ _ _ h => h) (Or.inr ⟨by rfl, rfl⟩) ?_ ?_; rotate_left
          ·simp only [Act.put, sA, sB, sC, i64_w, i32_w]
           rfl
          refine pure_ (i := 38) (N := some 82) (v := undef) (a' := ?_) (bs 45 549755813887) rfl rfl (any_of HT_.out (by kernel_rfl)) (fun _ _ _ h => h) (Or.inr ⟨by rfl, rfl⟩) ?_ ?_; rotate_left
          ·simp only [Act.put, sA, sB, sC, i64_w, i32_w]
           rfl
          refine pure_ (i := 39) (N := some 83) (v := undef) (a' := ?_) (bs 45 1099511627775) rfl rfl (any_of HT_.out (by kernel_rfl)) (fun _ _ _ h => h) (Or.inr ⟨by rfl, rfl⟩) ?_ ?_; rotate_left
          ·simp only [Act.put, sA, sB, sC, i64_w, i32_w]
           rfl
          refine pure_ (i := 40) (N := some 84) (v := undef) (a' := ?_) (bs 45 2199023255551) rfl rfl (any_of HT_.out (by kernel_rfl)) (fun _ _ _ h => h) (Or.inr ⟨by rfl, rfl⟩) ?_ ?_; rotate_left
          ·simp only [Act.put, sA, sB, sC, i64_w, i32_w]
           rfl
          refine pure_ (i := 41) (N := some 85) (v := undef) (a' := ?_) (bs 45 4398046511103) rfl rfl (any_of HT_.out (by kernel_rfl)) (fun _ _ _ h => h) (Or.inr ⟨by rfl, rfl⟩) ?_ ?_; rotate_left
          ·simp only [Act.put, sA, sB, sC, i64_w, i32_w]
           rfl
          refine pure_ (i := 42) (N := some 86) (v := undef) (a' := ?_) (bs 45 8796093022207) rfl rfl (any_of HT_.out (by kernel_rfl)) (fun _ _ _ h => h) (Or.inr ⟨by rfl, rfl⟩) ?_ ?_; rotate_left
          ·simp only [Act.put, sA, sB, sC, i64_w, i32_w]
           rfl
          refine pure_ (i := 43) (N := some 87) (v := undef) (a' := ?_) (bs 45 17592186044415) rfl rfl (any_of HT_.out (by kernel_rfl)) (fun _ _ _ h => h) (Or.inr ⟨by rfl, rfl⟩) ?_ ?_; rotate_left
          ·simp only [Act.put, sA, sB, sC, i64_w, i32_w]
           rfl
          refine pure_ (i := 44) (N := some 88) (v := ?_) (a' := ?_) (bs 45 35184372088831) rfl rfl (any_of HT_.out (by kernel_rfl)) (fun _ _ _ h => h) (Or.inl ⟨by rfl, ?_⟩) ?_ ?_; rotate_left
          ·intro w'
           go_simp
           with_reducible rfl
          rotate_left
          ·simp only [Act.put, sA, sB, sC, i64_w, i32_w]
           rfl
          refine done_ (done_of HT_.out (by kernel_rfl)) ?_
          try go_wp2
          go_meet
          case rel => exact ⟨_, (true), (by first | rfl | (simp; done) | (simp [*]; done)), H', ⟨by have := HJ5.out; first | omega | exact Nat.le_refl _⟩, ⟨by exact HO483.out⟩, ⟨by exact BK477.out⟩, ⟨by exact BK487.out⟩, ⟨by repeat (first | (with_reducible first | exact HB.out | apply bL | apply bP | apply bD | refine bS ?_ GE477.out | refine bS ?_ GE487.out) | exact HB.out)⟩⟩
        ·as_aux_lemma =>
         rw [if_neg c33] at H
         have c33b0 : (t484 == a0_1) = false := beq_eq_false_iff_ne.mpr c33; have c33b1 : (t484 != a0_1) = true := bne_iff_ne.mpr c33; have H' := zA H; clear H
         try go_wp2
         have n0_ : Aside0 (Kd.V k41 41 (((w23.setCell ⟨gb487, 0, none⟩ (.slice Ao24 t481.length co24)).setCell ⟨gb487, 1, none⟩ (.int .i64 t484)).setCell ⟨gb487, 2, none⟩ (.int .i64 t485)) w.heap.size (fun k_ => k_ ≠ gb477 ∧ k_ ≠ gb487) (.slice Ao24 t481.length co24) t481) := ⟨by exact Kd.V_mono (Kd.V_far (p := ⟨gb487, 2, none⟩) (Kd.V_far (p := ⟨gb487, 1, none⟩) (Kd.V_far (p := ⟨gb487, 0, none⟩) (Kd.V_mono HO483.out (fun k_ hk => (⟨hk, hk.2⟩ : _ ∧ k_ ≠ gb487))) (fun _ hk => hk.2) (.slice Ao24 t481.length co24)) (fun _ hk => hk.2) (.int .i64 t484)) (fun _ hk => hk.2) (.int .i64 t485)) (fun _ hk => ⟨hk.1.1, hk.1.2⟩)⟩; have n1_ : Aside0 ((((w23.setCell ⟨gb487, 0, none⟩ (.slice Ao24 t481.length co24)).setCell ⟨gb487, 1, none⟩ (.int .i64 t484)).setCell ⟨gb487, 2, none⟩ (.int .i64 t485)).heap[gb477]? = some (.cells #[.slice A0_0 l0_0.length c0_0, .int .i64 a0_1, .int .i64 a0_2] 24 (0, 0))) := ⟨by refine blk_far ?_ NB477_487.out _; refine blk_far ?_ NB477_487.out _; refine blk_far ?_ NB477_487.out _; exact BK477.out⟩; have n2_ : Aside0 ((((w23.setCell ⟨gb487, 0, none⟩ (.slice Ao24 t481.length co24)).setCell ⟨gb487, 1, none⟩ (.int .i64 t484)).setCell ⟨gb487, 2, none⟩ (.int .i64 t485)).heap[gb487]? = some (.cells #[.slice Ao24 t481.length co24, .int .i64 t484, .int .i64 t485] 24 (0, 0))) := ⟨by refine blk_put (cs := #[.slice Ao24 t481.length co24, .int .i64 t484, .int .i64 0]) ?_ 2 _ rfl; refine blk_put (cs := #[.slice Ao24 t481.length co24, .int .i64 0, .int .i64 0]) ?_ 1 _ rfl; refine blk_put (cs := #[.slice none 0 0, .int .i64 0, .int .i64 0]) ?_ 0 _ rfl; exact BK487.out⟩; have n3_ : Aside0 (Below w.heap.size w (((w23.setCell ⟨gb487, 0, none⟩ (.slice Ao24 t481.length co24)).setCell ⟨gb487, 1, none⟩ (.int .i64 t484)).setCell ⟨gb487, 2, none⟩ (.int .i64 t485))) := ⟨by repeat (first | (with_reducible first | exact HB.out | apply bL | apply bP | apply bD | refine bS ?_ GE477.out | refine bS ?_ GE487.out) | exact HB.out)⟩
         (try clear HO483)
         (try clear BK477)
         (try clear BK487)
         (try clear HB)
         generalize (((w23.setCell ⟨gb487, 0, none⟩ (.slice Ao24 t481.length co24)).setCell ⟨gb487, 1, none⟩ (.int .i64 t484)).setCell ⟨gb487, 2, none⟩ (.int .i64 t485)) = w47 at n0_ n1_ n2_ n3_ ⊢
         have HO483 := n0_; have BK477 := n1_; have BK487 := n2_; have HB := n3_; clear n0_ n1_ n2_ n3_; have n0_ := zA (Kd.V_drew HO483.out); have n1_ := zA (bW BK477.out); have n2_ := zA (bW BK487.out); have n3_ := zA (bD HB.out); clear HO483; clear BK477; clear BK487; clear HB; have HO483 := n0_; have BK477 := n1_; have BK487 := n2_; have HB := n3_; clear n0_ n1_ n2_ n3_; refine start_ (n := 45) (S := fun w' => w'.cell? ⟨gb487, 0, none⟩ = some (.slice Ao24 t481.length co24) ∧ w'.cell? ⟨gb487, 1, none⟩ = some (.int .i64 t484) ∧ w'.cell? ⟨gb487, 2, none⟩ = some (.int .i64 t485) ∧ w'.cell? ⟨gb477, 0, none⟩ = some (.slice A0_0 l0_0.length c0_0) ∧ w'.cell? ⟨gb477, 1, none⟩ = some (.int .i64 a0_1) ∧ w'.cell? ⟨gb477, 2, none⟩ = some (.int .i64 a0_2)) (ds := []) (bs 45 0) (by kernel_rfl) rfl rfl ⟨(blk_cell BK487.out 0).trans rfl, (blk_cell BK487.out 1).trans rfl, (blk_cell BK487.out 2).trans rfl, (blk_cell BK477.out 0).trans rfl, (blk_cell BK477.out 1).trans rfl, (blk_cell BK477.out 2).trans rfl⟩ (fun hHeld => ?_); refine with_tabW reelkeeperlaw13_DriveWrites.tab8 reelkeeperlaw13_DriveWrites.bits8 (fun HT_ HW_ => ?_)
         generalize w47.drew = w48 at HO483 BK477 BK487 HB hHeld ⊢
         refine take_ (i := 0) (N := some 44) (v := ?_) (a' := ?_) (bs 45 1) rfl rfl (take_ofW HT_.out HW_.out (by kernel_rfl)) (fun _ _ _ h => h) (Or.inl ⟨by rfl, ?_⟩) hHeld ?_ ?_; rotate_left
         ·rintro w' ⟨s0, s1, s2, s3, s4, s5⟩
          go_simp
          with_reducible rfl
         rotate_left
         ·simp only [Act.put, sA, sB, sC, i64_w, i32_w]
          rfl
         refine one_ (i := 1) (N := some 45) (bs 45 3) rfl rfl (one_of HT_.out (by kernel_rfl)) (by decide) (fun K hK => ?_); refine goes_ Try.func27 (by kernel_rfl) rfl #[.agg #[.slice Ao24 t481.length co24, .int .i64 t484, .int .i64 t485]] (by rfl) rfl rfl (by (try simp only [List.map_toArray, List.map_cons, List.map_nil]); first | done | rfl | (simp only [List.length_drop, List.length_take]; rfl)) ?_
         with_reducible refine (drive_May.calls _ _ t481 t484 t485 true _ ?side1 ?side2 A27.out).mono ?_
         (case side1 => repeat (first | exact (Kd.V_reads' HO483.out).2.2 | (with_reducible refine Kd.C_alloc ?_ _) | (with_reducible refine Kd.C_drewN ?_ _) | (with_reducible refine Kd.C_drew ?_)))
         (case side2 => exact (Kd.V_reads' HO483.out).2.1)
         rintro e w49 ⟨rfl, hb⟩
         refine ⟨_, rfl, ?_⟩; have n0_ := zA (Kd.V_below HO483.out hb); have n1_ := zA (bK BK477.out hb); have n2_ := zA (bK BK487.out hb); have n3_ := zA (below_step (by repeat (first | (with_reducible first | exact HB.out | apply bL | apply bP | apply bD | refine bS ?_ GE477.out | refine bS ?_ GE487.out) | exact HB.out)) hb); clear HO483; clear BK477; clear BK487; clear HB; have HO483 := n0_; have BK477 := n1_; have BK487 := n2_; have HB := n3_; clear n0_ n1_ n2_ n3_
         (try clear hb)
         (try clear hb2)
         (try clear hk)
         (try clear hi)
         refine hK.out _ _ ⟨(blk_cell BK487.out 0).trans rfl, (blk_cell BK487.out 1).trans rfl, (blk_cell BK487.out 2).trans rfl, (blk_cell BK477.out 0).trans rfl, (blk_cell BK477.out 1).trans rfl, (blk_cell BK477.out 2).trans rfl⟩ (fun hHeld => ?_); clear hK K; refine norm_ (a' := ?_) ?_ ?_; rotate_left
         ·show Act.put _ (some 45) _ = _
          simp only [Act.put, sA, sB, sC, i64_w, i32_w]
          rfl
         refine pure_ (i := 2) (N := some 46) (v := ?_) (a' := ?_) (bs 45 7) rfl rfl (any_of HT_.out (by kernel_rfl)) (fun _ _ _ h => h) (Or.inl ⟨by rfl, ?_⟩) ?_ ?_; rotate_left
         ·intro w'
          go_simp
          with_reducible rfl
         rotate_left
         ·simp only [Act.put, sA, sB, sC, i64_w, i32_w]
          rfl
         refine pure_ (i := 3) (N := some 47) (v := ?_) (a' := ?_) (bs 45 15) rfl rfl (any_of HT_.out (by kernel_rfl)) (fun _ _ _ h => h) (Or.inl ⟨by rfl, ?_⟩) ?_ ?_; rotate_left
         ·intro w'
          go_simp
          with_reducible rfl
         rotate_left
         ·simp only [Act.put, sA, sB, sC, i64_w, i32_w]
          rfl
         refine pure_ (i := 4) (N := some 48) (v := ?_) (a' := ?_) (bs 45 31) rfl rfl (any_of HT_.out (by kernel_rfl)) (fun _ _ _ h => h) (Or.inl ⟨by rfl, ?_⟩) ?_ ?_; rotate_left
         ·intro w'
          go_simp
          with_reducible rfl
         rotate_left
         ·simp only [Act.put, sA, sB, sC, i64_w, i32_w]
          rfl
         refine take_ (i := 5) (N := some 49) (v := ?_) (a' := ?_) (bs 45 63) rfl rfl (take_ofW HT_.out HW_.out (by kernel_rfl)) (fun _ _ _ h => h) (Or.inl ⟨by rfl, ?_⟩) hHeld ?_ ?_; rotate_left
         ·rintro w' ⟨s0, s1, s2, s3, s4, s5⟩
          go_simp
          with_reducible rfl
         rotate_left
         ·simp only [Act.put, sA, sB, sC, i64_w, i32_w]
          rfl
         refine pure_ (i := 6) (N := some 50) (v := ?_) (a' := ?_) (bs 45 127) rfl rfl (any_of HT_.out (by kernel_rfl)) (fun _ _ _ h => h) (Or.inl ⟨by rfl, ?_⟩) ?_ ?_; rotate_left
         ·intro w'
          go_simp
          with_reducible rfl
         rotate_left
         ·simp only [Act.put, sA, sB, sC, i64_w, i32_w]
          rfl
         refine pure_ (i := 7) (N := some 51) (v := ?_) (a' := ?_) (bs 45 255) rfl rfl (any_of HT_.out (by kernel_rfl)) (fun _ _ _ h => h) (Or.inl ⟨by rfl, ?_⟩) ?_ ?_; rotate_left
         ·intro w'
          go_simp
          with_reducible rfl
         rotate_left
         ·simp only [Act.put, sA, sB, sC, i64_w, i32_w]
          rfl
         refine pure_ (i := 8) (N := some 52) (v := ?_) (a' := ?_) (bs 45 511) rfl rfl (any_of HT_.out (by kernel_rfl)) (fun _ _ _ h => h) (Or.inl ⟨by rfl, ?_⟩) ?_ ?_; rotate_left
         ·intro w'
          go_simp
          with_reducible rfl
         rotate_left
         ·simp only [Act.put, sA, sB, sC, i64_w, i32_w]
          rfl
         refine pure_ (i := 9) (N := some 53) (v := ?_) (a' := ?_) (bs 45 1023) rfl rfl (any_of HT_.out (by kernel_rfl)) (fun _ _ _ h => h) (Or.inl ⟨by rfl, ?_⟩) ?_ ?_; rotate_left
         ·intro w'
          go_simp
          with_reducible rfl
         rotate_left
         ·simp only [Act.put, sA, sB, sC, i64_w, i32_w]
          rfl
         refine pure_ (i := 11) (N := some 55) (v := ?_) (a' := ?_) (bs 45 3071) rfl rfl (any_of HT_.out (by kernel_rfl)) (fun _ _ _ h => h) (Or.inl ⟨by rfl, ?_⟩) ?_ ?_; rotate_left
         ·intro w'
          go_simp
          with_reducible rfl
         rotate_left
         ·simp only [Act.put, sA, sB, sC, i64_w, i32_w]
          rfl
         refine take_ (i := 10) (N := some 54) (v := ?_) (a' := ?_) (bs 45 4095) rfl rfl (take_ofW HT_.out HW_.out (by kernel_rfl)) (fun _ _ _ h => h) (Or.inl ⟨by rfl, ?_⟩) hHeld ?_ ?_; rotate_left
         ·rintro w' ⟨s0, s1, s2, s3, s4, s5⟩
          go_simp
          with_reducible rfl
         rotate_left
         ·simp only [Act.put, sA, sB, sC, i64_w, i32_w]
          rfl
         refine take_ (i := 12) (N := some 56) (v := ?_) (a' := ?_) (bs 45 8191) rfl rfl (take_ofW HT_.out HW_.out (by kernel_rfl)) (fun _ _ _ h => h) (Or.inl ⟨by rfl, ?_⟩) hHeld ?_ ?_; rotate_left
         ·rintro w' ⟨s0, s1, s2, s3, s4, s5⟩
          go_simp
          with_reducible rfl
         rotate_left
         ·simp only [Act.put, sA, sB, sC, i64_w, i32_w]
          rfl
         refine pure_ (i := 13) (N := some 57) (v := ?_) (a' := ?_) (bs 45 16383) rfl rfl (any_of HT_.out (by kernel_rfl)) (fun _ _ _ h => h) (Or.inl ⟨by rfl, ?_⟩) ?_ ?_; rotate_left
         ·intro w'
          go_simp
          with_reducible rfl
         rotate_left
         ·simp only [Act.put, sA, sB, sC, i64_w, i32_w]
          rfl
         refine pure_ (i := 14) (N := some 58) (v := ?_) (a' := ?_) (bs 45 32767) rfl rfl (any_of HT_.out (by kernel_rfl)) (fun _ _ _ h => h) (Or.inl ⟨by rfl, ?_⟩) ?_ ?_; rotate_left
         ·intro w'
          go_simp
          with_reducible rfl
         rotate_left
         ·simp only [Act.put, sA, sB, sC, i64_w, i32_w]
          rfl
         refine pure_ (i := 15) (N := some 59) (v := ?_) (a' := ?_) (bs 45 65535) rfl rfl (any_of HT_.out (by kernel_rfl)) (fun _ _ _ h => h) (Or.inl ⟨by rfl, ?_⟩) ?_ ?_; rotate_left
         ·intro w'
          go_simp
          with_reducible rfl
         rotate_left
         ·simp only [Act.put, sA, sB, sC, i64_w, i32_w]
          rfl
         refine pure_ (i := 16) (N := some 60) (v := undef) (a' := ?_) (bs 45 131071) rfl rfl (any_of HT_.out (by kernel_rfl)) (fun _ _ _ h => h) (Or.inr ⟨by rfl, rfl⟩) ?_ ?_; rotate_left
         ·simp only [Act.put, sA, sB, sC, i64_w, i32_w]
          rfl
         refine pure_ (i := 17) (N := some 61) (v := undef) (a' := ?_) (bs 45 262143) rfl rfl (any_of HT_.out (by kernel_rfl)) (fun _ _ _ h => h) (Or.inr ⟨by rfl, rfl⟩) ?_ ?_; rotate_left
         ·simp only [Act.put, sA, sB, sC, i64_w, i32_w]
          rfl
         refine pure_ (i := 18) (N := some 62) (v := undef) (a' := ?_) (bs 45 524287) rfl rfl (any_of HT_.out (by kernel_rfl)) (fun _ _ _ h => h) (Or.inr ⟨by rfl, rfl⟩) ?_ ?_; rotate_left
         ·simp only [Act.put, sA, sB, sC, i64_w, i32_w]
          rfl
         refine pure_ (i := 19) (N := some 63) (v := undef) (a' := ?_) (bs 45 1048575) rfl rfl (any_of HT_.out (by kernel_rfl)) (fun _ _ _ h => h) (Or.inr ⟨by rfl, rfl⟩) ?_ ?_; rotate_left
         ·simp only [Act.put, sA, sB, sC, i64_w, i32_w]
          rfl
         refine pure_ (i := 20) (N := some 64) (v := undef) (a' := ?_) (bs 45 2097151) rfl rfl (any_of HT_.out (by kernel_rfl)) (fun _ _ _ h => h) (Or.inr ⟨by rfl, rfl⟩) ?_ ?_; rotate_left
         ·simp only [Act.put, sA, sB, sC, i64_w, i32_w]
          rfl
         refine pure_ (i := 21) (N := some 65) (v := undef) (a' := ?_) (bs 45 4194303) rfl rfl (any_of HT_.out (by kernel_rfl)) (fun _ _ _ h => h) (Or.inr ⟨by rfl, rfl⟩) ?_ ?_; rotate_left
         ·simp only [Act.put, sA, sB, sC, i64_w, i32_w]
          rfl
         refine pure_ (i := 22) (N := some 66) (v := ?_) (a' := ?_) (bs 45 8388607) rfl rfl (any_of HT_.out (by kernel_rfl)) (fun _ _ _ h => h) (Or.inl ⟨by rfl, ?_⟩) ?_ ?_; rotate_left
         ·intro w'
          go_simp
          with_reducible rfl
         rotate_left
         ·simp only [Act.put, sA, sB, sC, i64_w, i32_w]
          rfl
         refine pure_ (i := 23) (N := some 67) (v := ?_) (a' := ?_) (bs 45 16777215) rfl rfl (any_of HT_.out (by kernel_rfl)) (fun _ _ _ h => h) (Or.inl ⟨by rfl, ?_⟩) ?_ ?_; rotate_left
         ·intro w'
          go_simp
          with_reducible rfl
         rotate_left
         ·simp only [Act.put, sA, sB, sC, i64_w, i32_w]
          rfl
         refine pure_ (i := 24) (N := some 68) (v := undef) (a' := ?_) (bs 45 33554431) rfl rfl (any_of HT_.out (by kernel_rfl)) (fun _ _ _ h => h) (Or.inr ⟨by rfl, rfl⟩) ?_ ?_; rotate_left
         ·simp only [Act.put, sA, sB, sC, i64_w, i32_w]
          rfl
         refine pure_ (i := 25) (N := some 69) (v := undef) (a' := ?_) (bs 45 67108863) rfl rfl (any_of HT_.out (by kernel_rfl)) (fun _ _ _ h => h) (Or.inr ⟨by rfl, rfl⟩) ?_ ?_; rotate_left
         ·simp only [Act.put, sA, sB, sC, i64_w, i32_w]
          rfl
         refine pure_ (i := 26) (N := some 70) (v := undef) (a' := ?_) (bs 45 134217727) rfl rfl (any_of HT_.out (by kernel_rfl)) (fun _ _ _ h => h) (Or.inr ⟨by rfl, rfl⟩) ?_ ?_; rotate_left
         ·simp only [Act.put, sA, sB, sC, i64_w, i32_w]
          rfl
         refine pure_ (i := 27) (N := some 71) (v := undef) (a' := ?_) (bs 45 268435455) rfl rfl (any_of HT_.out (by kernel_rfl)) (fun _ _ _ h => h) (Or.inr ⟨by rfl, rfl⟩) ?_ ?_; rotate_left
         ·simp only [Act.put, sA, sB, sC, i64_w, i32_w]
          rfl
         refine pure_ (i := 28) (N := some 72) (v := undef) (a' := ?_) (bs 45 536870911) rfl rfl (any_of HT_.out (by kernel_rfl)) (fun _ _ _ h => h) (Or.inr ⟨by rfl, rfl⟩) ?_ ?_; rotate_left
         ·simp only [Act.put, sA, sB, sC, i64_w, i32_w]
          rfl
         refine pure_ (i := 29) (N := some 73) (v := undef) (a' := ?_) (bs 45 1073741823) rfl rfl (any_of HT_.out (by kernel_rfl)) (fun _ _ _ h => h) (Or.inr ⟨by rfl, rfl⟩) ?_ ?_; rotate_left
         ·simp only [Act.put, sA, sB, sC, i64_w, i32_w]
          rfl
         refine pure_ (i := 30) (N := some 74) (v := undef) (a' := ?_) (bs 45 2147483647) rfl rfl (any_of HT_.out (by kernel_rfl)) (fun _ _ _ h => h) (Or.inr ⟨by rfl, rfl⟩) ?_ ?_; rotate_left
         ·simp only [Act.put, sA, sB, sC, i64_w, i32_w]
          rfl
         refine pure_ (i := 31) (N := some 75) (v := ?_) (a' := ?_) (bs 45 4294967295) rfl rfl (any_of HT_.out (by kernel_rfl)) (fun _ _ _ h => h) (Or.inl ⟨by rfl, ?_⟩) ?_ ?_; rotate_left
         ·intro w'
          go_simp
          with_reducible rfl
         rotate_left
         ·simp only [Act.put, sA, sB, sC, i64_w, i32_w]
          rfl
         refine pure_ (i := 32) (N := some 76) (v := ?_) (a' := ?_) (bs 45 8589934591) rfl rfl (any_of HT_.out (by kernel_rfl)) (fun _ _ _ h => h) (Or.inl ⟨by rfl, ?_⟩) ?_ ?_; rotate_left
         ·intro w'
          go_simp
          with_reducible rfl
         rotate_left
         ·simp only [Act.put, sA, sB, sC, i64_w, i32_w]
          rfl
         refine pure_ (i := 33) (N := some 77) (v := undef) (a' := ?_) (bs 45 17179869183) rfl rfl (any_of HT_.out (by kernel_rfl)) (fun _ _ _ h => h) (Or.inr ⟨by rfl, rfl⟩) ?_ ?_; rotate_left
         ·simp only [Act.put, sA, sB, sC, i64_w, i32_w]
          rfl
         refine pure_ (i := 34) (N := some 78) (v := undef) (a' := ?_) (bs 45 34359738367) rfl rfl (any_of HT_.out (by kernel_rfl)) (fun _ _ _ h => h) (Or.inr ⟨by rfl, rfl⟩) ?_ ?_; rotate_left
         ·simp only [Act.put, sA, sB, sC, i64_w, i32_w]
          rfl
         refine pure_ (i := 35) (N := some 79) (v := undef) (a' := ?_) (bs 45 68719476735) rfl rfl (any_of HT_.out (by kernel_rfl)) (fun _ _ _ h => h) (Or.inr ⟨by rfl, rfl⟩) ?_ ?_; rotate_left
         ·simp only [Act.put, sA, sB, sC, i64_w, i32_w]
          rfl
         refine pure_ (i := 36) (N := some 80) (v := undef) (a' := ?_) (bs 45 137438953471) rfl rfl (any_of HT_.out (by kernel_rfl)) (fun _ _ _ h => h) (Or.inr ⟨by rfl, rfl⟩) ?_ ?_; rotate_left
         ·simp only [Act.put, sA, sB, sC, i64_w, i32_w]
          rfl
         refine pure_ (i := 37) (N := some 81) (v := undef) (a' := ?_) (bs 45 274877906943) rfl rfl (any_of HT_.out (by kernel_rfl)) (fun _ _ _ h => h) (Or.inr ⟨by rfl, rfl⟩) ?_ ?_; rotate_left
         ·simp only [Act.put, sA, sB, sC, i64_w, i32_w]
          rfl
         refine pure_ (i := 38) (N := some 82) (v := undef) (a' := ?_) (bs 45 549755813887) rfl rfl (any_of HT_.out (by kernel_rfl)) (fun _ _ _ h => h) (Or.inr ⟨by rfl, rfl⟩) ?_ ?_; rotate_left
         ·simp only [Act.put, sA, sB, sC, i64_w, i32_w]
          rfl
         refine pure_ (i := 39) (N := some 83) (v := undef) (a' := ?_) (bs 45 1099511627775) rfl rfl (any_of HT_.out (by kernel_rfl)) (fun _ _ _ h => h) (Or.inr ⟨by rfl, rfl⟩) ?_ ?_; rotate_left
         ·simp only [Act.put, sA, sB, sC, i64_w, i32_w]
          rfl
         refine pure_ (i := 40) (N := some 84) (v := undef) (a' := ?_) (bs 45 2199023255551) rfl rfl (any_of HT_.out (by kernel_rfl)) (fun _ _ _ h => h) (Or.inr ⟨by rfl, rfl⟩) ?_ ?_; rotate_left
         ·simp only [Act.put, sA, sB, sC, i64_w, i32_w]
          rfl
         refine pure_ (i := 41) (N := some 85) (v := undef) (a' := ?_) (bs 45 4398046511103) rfl rfl (any_of HT_.out (by kernel_rfl)) (fun _ _ _ h => h) (Or.inr ⟨by rfl, rfl⟩) ?_ ?_; rotate_left
         ·simp only [Act.put, sA, sB, sC, i64_w, i32_w]
          rfl
         refine pure_ (i := 42) (N := some 86) (v := undef) (a' := ?_) (bs 45 8796093022207) rfl rfl (any_of HT_.out (by kernel_rfl)) (fun _ _ _ h => h) (Or.inr ⟨by rfl, rfl⟩) ?_ ?_; rotate_left
         ·simp only [Act.put, sA, sB, sC, i64_w, i32_w]
          rfl
         refine pure_ (i := 43) (N := some 87) (v := undef) (a' := ?_) (bs 45 17592186044415) rfl rfl (any_of HT_.out (by kernel_rfl)) (fun _ _ _ h => h) (Or.inr ⟨by rfl, rfl⟩) ?_ ?_; rotate_left
         ·simp only [Act.put, sA, sB, sC, i64_w, i32_w]
          rfl
         refine pure_ (i := 44) (N := some 88) (v := ?_) (a' := ?_) (bs 45 35184372088831) rfl rfl (any_of HT_.out (by kernel_rfl)) (fun _ _ _ h => h) (Or.inl ⟨by rfl, ?_⟩) ?_ ?_; rotate_left
         ·intro w'
          go_simp
          with_reducible rfl
         rotate_left
         ·simp only [Act.put, sA, sB, sC, i64_w, i32_w]
          rfl
         refine done_ (done_of HT_.out (by kernel_rfl)) ?_
         try go_wp2
         go_meet
         case rel => exact ⟨_, (true), (by first | rfl | (simp; done) | (simp [*]; done)), H', ⟨by have := HJ5.out; first | omega | exact Nat.le_refl _⟩, ⟨by exact HO483.out⟩, ⟨by exact BK477.out⟩, ⟨by exact BK487.out⟩, ⟨by repeat (first | (with_reducible first | exact HB.out | apply bL | apply bP | apply bD | refine bS ?_ GE477.out | refine bS ?_ GE487.out) | exact HB.out)⟩⟩
      ·replace c28 := Bool.eq_false_iff.mpr c28
       subst c28
       have H1 : (reelkeeperlaw13_DriveWrites.j1 kj5 l1 a2 true l0_0 a0_1 a0_2 t481 t484 t485) = some r := by rw [if_neg (show ¬ (false = true) by decide)] at H; exact H
       clear H; have H := H1; clear H1; have H' := zA H; clear H
       try go_wp2
       have n0_ : Aside0 (Kd.V k41 41 (((w23.setCell ⟨gb487, 0, none⟩ (.slice Ao24 t481.length co24)).setCell ⟨gb487, 1, none⟩ (.int .i64 t484)).setCell ⟨gb487, 2, none⟩ (.int .i64 t485)) w.heap.size (fun k_ => k_ ≠ gb477 ∧ k_ ≠ gb487) (.slice Ao24 t481.length co24) t481) := ⟨by exact Kd.V_mono (Kd.V_far (p := ⟨gb487, 2, none⟩) (Kd.V_far (p := ⟨gb487, 1, none⟩) (Kd.V_far (p := ⟨gb487, 0, none⟩) (Kd.V_mono HO483.out (fun k_ hk => (⟨hk, hk.2⟩ : _ ∧ k_ ≠ gb487))) (fun _ hk => hk.2) (.slice Ao24 t481.length co24)) (fun _ hk => hk.2) (.int .i64 t484)) (fun _ hk => hk.2) (.int .i64 t485)) (fun _ hk => ⟨hk.1.1, hk.1.2⟩)⟩; have n1_ : Aside0 ((((w23.setCell ⟨gb487, 0, none⟩ (.slice Ao24 t481.length co24)).setCell ⟨gb487, 1, none⟩ (.int .i64 t484)).setCell ⟨gb487, 2, none⟩ (.int .i64 t485)).heap[gb477]? = some (.cells #[.slice A0_0 l0_0.length c0_0, .int .i64 a0_1, .int .i64 a0_2] 24 (0, 0))) := ⟨by refine blk_far ?_ NB477_487.out _; refine blk_far ?_ NB477_487.out _; refine blk_far ?_ NB477_487.out _; exact BK477.out⟩; have n2_ : Aside0 ((((w23.setCell ⟨gb487, 0, none⟩ (.slice Ao24 t481.length co24)).setCell ⟨gb487, 1, none⟩ (.int .i64 t484)).setCell ⟨gb487, 2, none⟩ (.int .i64 t485)).heap[gb487]? = some (.cells #[.slice Ao24 t481.length co24, .int .i64 t484, .int .i64 t485] 24 (0, 0))) := ⟨by refine blk_put (cs := #[.slice Ao24 t481.length co24, .int .i64 t484, .int .i64 0]) ?_ 2 _ rfl; refine blk_put (cs := #[.slice Ao24 t481.length co24, .int .i64 0, .int .i64 0]) ?_ 1 _ rfl; refine blk_put (cs := #[.slice none 0 0, .int .i64 0, .int .i64 0]) ?_ 0 _ rfl; exact BK487.out⟩; have n3_ : Aside0 (Below w.heap.size w (((w23.setCell ⟨gb487, 0, none⟩ (.slice Ao24 t481.length co24)).setCell ⟨gb487, 1, none⟩ (.int .i64 t484)).setCell ⟨gb487, 2, none⟩ (.int .i64 t485))) := ⟨by repeat (first | (with_reducible first | exact HB.out | apply bL | apply bP | apply bD | refine bS ?_ GE477.out | refine bS ?_ GE487.out) | exact HB.out)⟩
       (try clear HO483)
       (try clear BK477)
       (try clear BK487)
       (try clear HB)
       generalize (((w23.setCell ⟨gb487, 0, none⟩ (.slice Ao24 t481.length co24)).setCell ⟨gb487, 1, none⟩ (.int .i64 t484)).setCell ⟨gb487, 2, none⟩ (.int .i64 t485)) = w50 at n0_ n1_ n2_ n3_ ⊢
       have HO483 := n0_; have BK477 := n1_; have BK487 := n2_; have HB := n3_; clear n0_ n1_ n2_ n3_; have n0_ := zA (Kd.V_drew HO483.out); have n1_ := zA (bW BK477.out); have n2_ := zA (bW BK487.out); have n3_ := zA (bD HB.out); clear HO483; clear BK477; clear BK487; clear HB; have HO483 := n0_; have BK477 := n1_; have BK487 := n2_; have HB := n3_; clear n0_ n1_ n2_ n3_; refine start_ (n := 45) (S := fun w' => w'.cell? ⟨gb487, 0, none⟩ = some (.slice Ao24 t481.length co24) ∧ w'.cell? ⟨gb487, 1, none⟩ = some (.int .i64 t484) ∧ w'.cell? ⟨gb487, 2, none⟩ = some (.int .i64 t485)) (ds := []) (bs 45 0) (by kernel_rfl) rfl rfl ⟨(blk_cell BK487.out 0).trans rfl, (blk_cell BK487.out 1).trans rfl, (blk_cell BK487.out 2).trans rfl⟩ (fun hHeld => ?_); refine with_tabW reelkeeperlaw13_DriveWrites.tab8 reelkeeperlaw13_DriveWrites.bits8 (fun HT_ HW_ => ?_)
       generalize w50.drew = w51 at HO483 BK477 BK487 HB hHeld ⊢
       refine take_ (i := 0) (N := some 44) (v := ?_) (a' := ?_) (bs 45 1) rfl rfl (take_ofW HT_.out HW_.out (by kernel_rfl)) (fun _ _ _ h => h) (Or.inl ⟨by rfl, ?_⟩) hHeld ?_ ?_; rotate_left
       ·rintro w' ⟨s0, s1, s2⟩
        go_simp
        with_reducible rfl
       rotate_left
       ·simp only [Act.put, sA, sB, sC, i64_w, i32_w]
        rfl
       refine one_ (i := 1) (N := some 45) (bs 45 3) rfl rfl (one_of HT_.out (by kernel_rfl)) (by decide) (fun K hK => ?_); refine goes_ Try.func27 (by kernel_rfl) rfl #[.agg #[.slice Ao24 t481.length co24, .int .i64 t484, .int .i64 t485]] (by rfl) rfl rfl (by (try simp only [List.map_toArray, List.map_cons, List.map_nil]); first | done | rfl | (simp only [List.length_drop, List.length_take]; rfl)) ?_
       with_reducible refine (drive_May.calls _ _ t481 t484 t485 false _ ?side1 ?side2 A27.out).mono ?_
       (case side1 => repeat (first | exact (Kd.V_reads' HO483.out).2.2 | (with_reducible refine Kd.C_alloc ?_ _) | (with_reducible refine Kd.C_drewN ?_ _) | (with_reducible refine Kd.C_drew ?_)))
       (case side2 => exact (Kd.V_reads' HO483.out).2.1)
       rintro e w52 ⟨rfl, hb⟩
       refine ⟨_, rfl, ?_⟩; have n0_ := zA (Kd.V_below HO483.out hb); have n1_ := zA (bK BK477.out hb); have n2_ := zA (bK BK487.out hb); have n3_ := zA (below_step (by repeat (first | (with_reducible first | exact HB.out | apply bL | apply bP | apply bD | refine bS ?_ GE477.out | refine bS ?_ GE487.out) | exact HB.out)) hb); clear HO483; clear BK477; clear BK487; clear HB; have HO483 := n0_; have BK477 := n1_; have BK487 := n2_; have HB := n3_; clear n0_ n1_ n2_ n3_
       (try clear hb)
       (try clear hb2)
       (try clear hk)
       (try clear hi)
       refine hK.out _ _ ⟨(blk_cell BK487.out 0).trans rfl, (blk_cell BK487.out 1).trans rfl, (blk_cell BK487.out 2).trans rfl⟩ (fun hHeld => ?_); clear hK K; refine norm_ (a' := ?_) ?_ ?_; rotate_left
       ·show Act.put _ (some 45) _ = _
        simp only [Act.put, sA, sB, sC, i64_w, i32_w]
        rfl
       refine pure_ (i := 2) (N := some 46) (v := ?_) (a' := ?_) (bs 45 7) rfl rfl (any_of HT_.out (by kernel_rfl)) (fun _ _ _ h => h) (Or.inl ⟨by rfl, ?_⟩) ?_ ?_; rotate_left
       ·intro w'
        go_simp
        with_reducible rfl
       rotate_left
       ·simp only [Act.put, sA, sB, sC, i64_w, i32_w]
        rfl
       refine pure_ (i := 3) (N := some 47) (v := ?_) (a' := ?_) (bs 45 15) rfl rfl (any_of HT_.out (by kernel_rfl)) (fun _ _ _ h => h) (Or.inl ⟨by rfl, ?_⟩) ?_ ?_; rotate_left
       ·intro w'
        go_simp
        with_reducible rfl
       rotate_left
       ·simp only [Act.put, sA, sB, sC, i64_w, i32_w]
        rfl
       refine pure_ (i := 4) (N := some 48) (v := undef) (a' := ?_) (bs 45 31) rfl rfl (any_of HT_.out (by kernel_rfl)) (fun _ _ _ h => h) (Or.inr ⟨by rfl, rfl⟩) ?_ ?_; rotate_left
       ·simp only [Act.put, sA, sB, sC, i64_w, i32_w]
        rfl
       refine pure_ (i := 5) (N := some 49) (v := undef) (a' := ?_) (bs 45 63) rfl rfl (any_of HT_.out (by kernel_rfl)) (fun _ _ _ h => h) (Or.inr ⟨by rfl, rfl⟩) ?_ ?_; rotate_left
       ·simp only [Act.put, sA, sB, sC, i64_w, i32_w]
        rfl
       refine pure_ (i := 6) (N := some 50) (v := undef) (a' := ?_) (bs 45 127) rfl rfl (any_of HT_.out (by kernel_rfl)) (fun _ _ _ h => h) (Or.inr ⟨by rfl, rfl⟩) ?_ ?_; rotate_left
       ·simp only [Act.put, sA, sB, sC, i64_w, i32_w]
        rfl
       refine pure_ (i := 7) (N := some 51) (v := ?_) (a' := ?_) (bs 45 255) rfl rfl (any_of HT_.out (by kernel_rfl)) (fun _ _ _ h => h) (Or.inl ⟨by rfl, ?_⟩) ?_ ?_; rotate_left
       ·intro w'
        go_simp
        with_reducible rfl
       rotate_left
       ·simp only [Act.put, sA, sB, sC, i64_w, i32_w]
        rfl
       refine pure_ (i := 8) (N := some 52) (v := ?_) (a' := ?_) (bs 45 511) rfl rfl (any_of HT_.out (by kernel_rfl)) (fun _ _ _ h => h) (Or.inl ⟨by rfl, ?_⟩) ?_ ?_; rotate_left
       ·intro w'
        go_simp
        with_reducible rfl
       rotate_left
       ·simp only [Act.put, sA, sB, sC, i64_w, i32_w]
        rfl
       refine pure_ (i := 9) (N := some 53) (v := undef) (a' := ?_) (bs 45 1023) rfl rfl (any_of HT_.out (by kernel_rfl)) (fun _ _ _ h => h) (Or.inr ⟨by rfl, rfl⟩) ?_ ?_; rotate_left
       ·simp only [Act.put, sA, sB, sC, i64_w, i32_w]
        rfl
       refine pure_ (i := 10) (N := some 54) (v := undef) (a' := ?_) (bs 45 2047) rfl rfl (any_of HT_.out (by kernel_rfl)) (fun _ _ _ h => h) (Or.inr ⟨by rfl, rfl⟩) ?_ ?_; rotate_left
       ·simp only [Act.put, sA, sB, sC, i64_w, i32_w]
        rfl
       refine pure_ (i := 11) (N := some 55) (v := undef) (a' := ?_) (bs 45 4095) rfl rfl (any_of HT_.out (by kernel_rfl)) (fun _ _ _ h => h) (Or.inr ⟨by rfl, rfl⟩) ?_ ?_; rotate_left
       ·simp only [Act.put, sA, sB, sC, i64_w, i32_w]
        rfl
       refine pure_ (i := 12) (N := some 56) (v := undef) (a' := ?_) (bs 45 8191) rfl rfl (any_of HT_.out (by kernel_rfl)) (fun _ _ _ h => h) (Or.inr ⟨by rfl, rfl⟩) ?_ ?_; rotate_left
       ·simp only [Act.put, sA, sB, sC, i64_w, i32_w]
        rfl
       refine pure_ (i := 13) (N := some 57) (v := undef) (a' := ?_) (bs 45 16383) rfl rfl (any_of HT_.out (by kernel_rfl)) (fun _ _ _ h => h) (Or.inr ⟨by rfl, rfl⟩) ?_ ?_; rotate_left
       ·simp only [Act.put, sA, sB, sC, i64_w, i32_w]
        rfl
       refine pure_ (i := 14) (N := some 58) (v := ?_) (a' := ?_) (bs 45 32767) rfl rfl (any_of HT_.out (by kernel_rfl)) (fun _ _ _ h => h) (Or.inl ⟨by rfl, ?_⟩) ?_ ?_; rotate_left
       ·intro w'
        go_simp
        with_reducible rfl
       rotate_left
       ·simp only [Act.put, sA, sB, sC, i64_w, i32_w]
        rfl
       refine pure_ (i := 15) (N := some 59) (v := ?_) (a' := ?_) (bs 45 65535) rfl rfl (any_of HT_.out (by kernel_rfl)) (fun _ _ _ h => h) (Or.inl ⟨by rfl, ?_⟩) ?_ ?_; rotate_left
       ·intro w'
        go_simp
        with_reducible rfl
       rotate_left
       ·simp only [Act.put, sA, sB, sC, i64_w, i32_w]
        rfl
       refine pure_ (i := 16) (N := some 60) (v := undef) (a' := ?_) (bs 45 131071) rfl rfl (any_of HT_.out (by kernel_rfl)) (fun _ _ _ h => h) (Or.inr ⟨by rfl, rfl⟩) ?_ ?_; rotate_left
       ·simp only [Act.put, sA, sB, sC, i64_w, i32_w]
        rfl
       refine pure_ (i := 17) (N := some 61) (v := undef) (a' := ?_) (bs 45 262143) rfl rfl (any_of HT_.out (by kernel_rfl)) (fun _ _ _ h => h) (Or.inr ⟨by rfl, rfl⟩) ?_ ?_; rotate_left
       ·simp only [Act.put, sA, sB, sC, i64_w, i32_w]
        rfl
       refine pure_ (i := 18) (N := some 62) (v := undef) (a' := ?_) (bs 45 524287) rfl rfl (any_of HT_.out (by kernel_rfl)) (fun _ _ _ h => h) (Or.inr ⟨by rfl, rfl⟩) ?_ ?_; rotate_left
       ·simp only [Act.put, sA, sB, sC, i64_w, i32_w]
        rfl
       refine pure_ (i := 19) (N := some 63) (v := undef) (a' := ?_) (bs 45 1048575) rfl rfl (any_of HT_.out (by kernel_rfl)) (fun _ _ _ h => h) (Or.inr ⟨by rfl, rfl⟩) ?_ ?_; rotate_left
       ·simp only [Act.put, sA, sB, sC, i64_w, i32_w]
        rfl
       refine pure_ (i := 20) (N := some 64) (v := undef) (a' := ?_) (bs 45 2097151) rfl rfl (any_of HT_.out (by kernel_rfl)) (fun _ _ _ h => h) (Or.inr ⟨by rfl, rfl⟩) ?_ ?_; rotate_left
       ·simp only [Act.put, sA, sB, sC, i64_w, i32_w]
        rfl
       refine pure_ (i := 21) (N := some 65) (v := undef) (a' := ?_) (bs 45 4194303) rfl rfl (any_of HT_.out (by kernel_rfl)) (fun _ _ _ h => h) (Or.inr ⟨by rfl, rfl⟩) ?_ ?_; rotate_left
       ·simp only [Act.put, sA, sB, sC, i64_w, i32_w]
        rfl
       refine pure_ (i := 22) (N := some 66) (v := ?_) (a' := ?_) (bs 45 8388607) rfl rfl (any_of HT_.out (by kernel_rfl)) (fun _ _ _ h => h) (Or.inl ⟨by rfl, ?_⟩) ?_ ?_; rotate_left
       ·intro w'
        go_simp
        with_reducible rfl
       rotate_left
       ·simp only [Act.put, sA, sB, sC, i64_w, i32_w]
        rfl
       refine pure_ (i := 23) (N := some 67) (v := ?_) (a' := ?_) (bs 45 16777215) rfl rfl (any_of HT_.out (by kernel_rfl)) (fun _ _ _ h => h) (Or.inl ⟨by rfl, ?_⟩) ?_ ?_; rotate_left
       ·intro w'
        go_simp
        with_reducible rfl
       rotate_left
       ·simp only [Act.put, sA, sB, sC, i64_w, i32_w]
        rfl
       refine pure_ (i := 24) (N := some 68) (v := undef) (a' := ?_) (bs 45 33554431) rfl rfl (any_of HT_.out (by kernel_rfl)) (fun _ _ _ h => h) (Or.inr ⟨by rfl, rfl⟩) ?_ ?_; rotate_left
       ·simp only [Act.put, sA, sB, sC, i64_w, i32_w]
        rfl
       refine pure_ (i := 25) (N := some 69) (v := undef) (a' := ?_) (bs 45 67108863) rfl rfl (any_of HT_.out (by kernel_rfl)) (fun _ _ _ h => h) (Or.inr ⟨by rfl, rfl⟩) ?_ ?_; rotate_left
       ·simp only [Act.put, sA, sB, sC, i64_w, i32_w]
        rfl
       refine pure_ (i := 26) (N := some 70) (v := undef) (a' := ?_) (bs 45 134217727) rfl rfl (any_of HT_.out (by kernel_rfl)) (fun _ _ _ h => h) (Or.inr ⟨by rfl, rfl⟩) ?_ ?_; rotate_left
       ·simp only [Act.put, sA, sB, sC, i64_w, i32_w]
        rfl
       refine pure_ (i := 27) (N := some 71) (v := undef) (a' := ?_) (bs 45 268435455) rfl rfl (any_of HT_.out (by kernel_rfl)) (fun _ _ _ h => h) (Or.inr ⟨by rfl, rfl⟩) ?_ ?_; rotate_left
       ·simp only [Act.put, sA, sB, sC, i64_w, i32_w]
        rfl
       refine pure_ (i := 28) (N := some 72) (v := undef) (a' := ?_) (bs 45 536870911) rfl rfl (any_of HT_.out (by kernel_rfl)) (fun _ _ _ h => h) (Or.inr ⟨by rfl, rfl⟩) ?_ ?_; rotate_left
       ·simp only [Act.put, sA, sB, sC, i64_w, i32_w]
        rfl
       refine pure_ (i := 29) (N := some 73) (v := undef) (a' := ?_) (bs 45 1073741823) rfl rfl (any_of HT_.out (by kernel_rfl)) (fun _ _ _ h => h) (Or.inr ⟨by rfl, rfl⟩) ?_ ?_; rotate_left
       ·simp only [Act.put, sA, sB, sC, i64_w, i32_w]
        rfl
       refine pure_ (i := 30) (N := some 74) (v := undef) (a' := ?_) (bs 45 2147483647) rfl rfl (any_of HT_.out (by kernel_rfl)) (fun _ _ _ h => h) (Or.inr ⟨by rfl, rfl⟩) ?_ ?_; rotate_left
       ·simp only [Act.put, sA, sB, sC, i64_w, i32_w]
        rfl
       refine pure_ (i := 31) (N := some 75) (v := ?_) (a' := ?_) (bs 45 4294967295) rfl rfl (any_of HT_.out (by kernel_rfl)) (fun _ _ _ h => h) (Or.inl ⟨by rfl, ?_⟩) ?_ ?_; rotate_left
       ·intro w'
        go_simp
        with_reducible rfl
       rotate_left
       ·simp only [Act.put, sA, sB, sC, i64_w, i32_w]
        rfl
       refine pure_ (i := 32) (N := some 76) (v := ?_) (a' := ?_) (bs 45 8589934591) rfl rfl (any_of HT_.out (by kernel_rfl)) (fun _ _ _ h => h) (Or.inl ⟨by rfl, ?_⟩) ?_ ?_; rotate_left
       ·intro w'
        go_simp
        with_reducible rfl
       rotate_left
       ·simp only [Act.put, sA, sB, sC, i64_w, i32_w]
        rfl
       refine pure_ (i := 33) (N := some 77) (v := undef) (a' := ?_) (bs 45 17179869183) rfl rfl (any_of HT_.out (by kernel_rfl)) (fun _ _ _ h => h) (Or.inr ⟨by rfl, rfl⟩) ?_ ?_; rotate_left
       ·simp only [Act.put, sA, sB, sC, i64_w, i32_w]
        rfl
       refine pure_ (i := 34) (N := some 78) (v := undef) (a' := ?_) (bs 45 34359738367) rfl rfl (any_of HT_.out (by kernel_rfl)) (fun _ _ _ h => h) (Or.inr ⟨by rfl, rfl⟩) ?_ ?_; rotate_left
       ·simp only [Act.put, sA, sB, sC, i64_w, i32_w]
        rfl
       refine pure_ (i := 35) (N := some 79) (v := undef) (a' := ?_) (bs 45 68719476735) rfl rfl (any_of HT_.out (by kernel_rfl)) (fun _ _ _ h => h) (Or.inr ⟨by rfl, rfl⟩) ?_ ?_; rotate_left
       ·simp only [Act.put, sA, sB, sC, i64_w, i32_w]
        rfl
       refine pure_ (i := 36) (N := some 80) (v := undef) (a' := ?_) (bs 45 137438953471) rfl rfl (any_of HT_.out (by kernel_rfl)) (fun _ _ _ h => h) (Or.inr ⟨by rfl, rfl⟩) ?_ ?_; rotate_left
       ·simp only [Act.put, sA, sB, sC, i64_w, i32_w]
        rfl
       refine pure_ (i := 37) (N := some 81) (v := undef) (a' := ?_) (bs 45 274877906943) rfl rfl (any_of HT_.out (by kernel_rfl)) (fun _ _ _ h => h) (Or.inr ⟨by rfl, rfl⟩) ?_ ?_; rotate_left
       ·simp only [Act.put, sA, sB, sC, i64_w, i32_w]
        rfl
       refine pure_ (i := 38) (N := some 82) (v := undef) (a' := ?_) (bs 45 549755813887) rfl rfl (any_of HT_.out (by kernel_rfl)) (fun _ _ _ h => h) (Or.inr ⟨by rfl, rfl⟩) ?_ ?_; rotate_left
       ·simp only [Act.put, sA, sB, sC, i64_w, i32_w]
        rfl
       refine pure_ (i := 39) (N := some 83) (v := undef) (a' := ?_) (bs 45 1099511627775) rfl rfl (any_of HT_.out (by kernel_rfl)) (fun _ _ _ h => h) (Or.inr ⟨by rfl, rfl⟩) ?_ ?_; rotate_left
       ·simp only [Act.put, sA, sB, sC, i64_w, i32_w]
        rfl
       refine pure_ (i := 40) (N := some 84) (v := undef) (a' := ?_) (bs 45 2199023255551) rfl rfl (any_of HT_.out (by kernel_rfl)) (fun _ _ _ h => h) (Or.inr ⟨by rfl, rfl⟩) ?_ ?_; rotate_left
       ·simp only [Act.put, sA, sB, sC, i64_w, i32_w]
        rfl
       refine pure_ (i := 41) (N := some 85) (v := undef) (a' := ?_) (bs 45 4398046511103) rfl rfl (any_of HT_.out (by kernel_rfl)) (fun _ _ _ h => h) (Or.inr ⟨by rfl, rfl⟩) ?_ ?_; rotate_left
       ·simp only [Act.put, sA, sB, sC, i64_w, i32_w]
        rfl
       refine pure_ (i := 42) (N := some 86) (v := undef) (a' := ?_) (bs 45 8796093022207) rfl rfl (any_of HT_.out (by kernel_rfl)) (fun _ _ _ h => h) (Or.inr ⟨by rfl, rfl⟩) ?_ ?_; rotate_left
       ·simp only [Act.put, sA, sB, sC, i64_w, i32_w]
        rfl
       refine pure_ (i := 43) (N := some 87) (v := undef) (a' := ?_) (bs 45 17592186044415) rfl rfl (any_of HT_.out (by kernel_rfl)) (fun _ _ _ h => h) (Or.inr ⟨by rfl, rfl⟩) ?_ ?_; rotate_left
       ·simp only [Act.put, sA, sB, sC, i64_w, i32_w]
        rfl
       refine pure_ (i := 44) (N := some 88) (v := ?_) (a' := ?_) (bs 45 35184372088831) rfl rfl (any_of HT_.out (by kernel_rfl)) (fun _ _ _ h => h) (Or.inl ⟨by rfl, ?_⟩) ?_ ?_; rotate_left
       ·intro w'
        go_simp
        with_reducible rfl
       rotate_left
       ·simp only [Act.put, sA, sB, sC, i64_w, i32_w]
        rfl
       refine done_ (done_of HT_.out (by kernel_rfl)) ?_
       try go_wp2
       go_meet
       case rel => exact ⟨_, (true), (by first | rfl | (simp; done) | (simp [*]; done)), H', ⟨by have := HJ5.out; first | omega | exact Nat.le_refl _⟩, ⟨by exact HO483.out⟩, ⟨by exact BK477.out⟩, ⟨by exact BK487.out⟩, ⟨by repeat (first | (with_reducible first | exact HB.out | apply bL | apply bP | apply bD | refine bS ?_ GE477.out | refine bS ?_ GE487.out) | exact HB.out)⟩⟩
     case rest =>
      clear HC20
      try clear c2
      try clear p2
      try clear c27
      try clear c28
      obtain ⟨kq, x88_19, rfl, HA, HJ19, HO_488000, BK477, BK487, HB⟩ := hcut
      cases kq with
      | zero => exact absurd HA.out (by simp [reelkeeperlaw13_DriveWrites.j1])
      | succ kj19 =>
       have H := HA.out; clear HA
       simp only [reelkeeperlaw13_DriveWrites.j1] at H
       by_cases c53 : x88_19 = true
       ·subst c53
        have H1 : (none) = some r := by rw [if_pos rfl] at H; exact H
        clear H; have H := H1; clear H1; exact absurd H (by simp)
       ·replace c53 := Bool.eq_false_iff.mpr c53
        subst c53
        have H1 : (if 0 ≤ t484 then (if t484 < (t481.length : Int) then ((tape_Read.f ((rd_T41 t481 t484).f0) ((rd_T41 t481 t484).f1) ((rd_T41 t481 t484).f2) a0_2).bind fun bt492 => (if bt492.2 = 0 then (if (strOfNums bt492.1).toList = (strOfNums l1).toList then (if a2 < 0 then (some true) else (if a2 ≥ (l0_0.length : Int) then (some true) else (if a2 = a0_1 then (some true) else (if 0 ≤ a2 then (if a2 < (t481.length : Int) then (if a2 < (l0_0.length : Int) then ((tape_Same.f ((rd_T41 t481 a2).f0) ((rd_T41 t481 a2).f1) ((rd_T41 t481 a2).f2) ((rd_T41 l0_0 a2).f0) ((rd_T41 l0_0 a2).f1) ((rd_T41 l0_0 a2).f2)).bind fun t498 => (some t498)) else (none)) else (none)) else (none))))) else (none)) else (none))) else (none)) else (none)) = some r := by rw [if_neg (show ¬ (false = true) by decide)] at H; exact H
        clear H; have H := H1; clear H1
        by_cases c54 : 0 ≤ t484
        ·as_aux_lemma =>
         rw [if_pos c54] at H
         have c54b0 : decide (0 ≤ t484) = true := decide_eq_true c54; clear c54
         by_cases c55 : t484 < (t481.length : Int)
         ·as_aux_lemma =>
          rw [if_pos c55] at H
          have c55b0 : decide (t484 < (t481.length : Int)) = true := decide_eq_true c55; clear c55; replace H := Option.bind_eq_some_iff.mp H; obtain ⟨⟨t492, t495⟩, A560, H⟩ := H; replace H : (if t495 = 0 then (if (strOfNums t492).toList = (strOfNums l1).toList then (if a2 < 0 then (some true) else (if a2 ≥ (l0_0.length : Int) then (some true) else (if a2 = a0_1 then (some true) else (if 0 ≤ a2 then (if a2 < (t481.length : Int) then (if a2 < (l0_0.length : Int) then ((tape_Same.f ((rd_T41 t481 a2).f0) ((rd_T41 t481 a2).f1) ((rd_T41 t481 a2).f2) ((rd_T41 l0_0 a2).f0) ((rd_T41 l0_0 a2).f1) ((rd_T41 l0_0 a2).f2)).bind fun t498 => (some t498)) else (none)) else (none)) else (none))))) else (none)) else (none)) = some r := H; have A56 := zA A560; clear A560
          by_cases c57 : t495 = 0
          ·as_aux_lemma =>
           rw [if_pos c57] at H
           have c57b0 : (t495 == 0) = true := beq_iff_eq.mpr c57; have c57b1 : (t495 != 0) = false := bne_eq_false_iff_eq.mpr c57; clear c57
           by_cases c58 : (strOfNums t492).toList = (strOfNums l1).toList
           ·as_aux_lemma =>
            rw [if_pos c58] at H
            have c58b0 : ((strOfNums t492).toList == (strOfNums l1).toList) = true := beq_iff_eq.mpr c58; have c58b1 : ((strOfNums t492).toList != (strOfNums l1).toList) = false := bne_eq_false_iff_eq.mpr c58; clear c58
            by_cases c59 : a2 < 0
            ·as_aux_lemma =>
             rw [if_pos c59] at H
             have c59b0 : decide (a2 < 0) = true := decide_eq_true c59; clear c59; obtain rfl := Option.some.inj H
             try go_wp2
             have n0_ := zA (Kd.V_drew HO_488000.out); have n1_ := zA (bW BK477.out); have n2_ := zA (bW BK487.out); have n3_ := zA (bD HB.out); clear HO_488000; clear BK477; clear BK487; clear HB; have HO_488000 := n0_; have BK477 := n1_; have BK487 := n2_; have HB := n3_; clear n0_ n1_ n2_ n3_; have p491 : 0 ≤ (t484 : Int) := of_decide_eq_true (by assumption); have q491 : t484 < (t481.length : Int) := of_decide_eq_true (by assumption); obtain ⟨ad491, A491_1, c491_1, e491, hx491_0, hx491_1, hx491_2, hl491_1, hi491_1⟩ := at_T41 (Kd.V_reads' HO_488000.out).2.2 t484 p491 q491; cases e491; obtain ⟨ce491, hce491, hMe491, hcc491⟩ := Kd.V_get HO_488000.out z41 t484 p491 (by first | exact q491 | exact of_decide_eq_true (by assumption) | (have e_ := (Kd.V_reads' HO_488000.out).1; omega)); obtain ⟨ua491_1, uc491_1, rfl, ul491_1, ge491_1⟩ := k41_openF hMe491; have hv491_1 := hcc491 1 _ rfl
             rw [add_field _ _ 1 (by omega)] at hv491_1
             replace hv491_1 := Option.some.inj (hv491_1.symm.trans hx491_1)
             injection hv491_1 with hva_ hvn_ hvc_
             rw [hva_] at ge491_1
             rw [hvc_] at ul491_1
             have HL491_1 := zA (show Kd.V (Kd.slice 5 (Kd.int .u8)) 25 _ w.heap.size _ _ ((rd_T41 t481 t484).f1) from Kd.V_mk ul491_1 ge491_1); clear hva_ hvn_ hvc_ ge491_1 ul491_1; clear hcc491 hce491; have HR491_1 := zA hi491_1; have HC491_1 := zA hl491_1; clear hi491_1 hl491_1; replace p491 := eq_true p491; replace q491 := eq_true q491; refine start_ (n := 14) (S := fun w' => w'.cell? ⟨gb487, 0, none⟩ = some (.slice (some ad491) t481.length co24) ∧ w'.cell? ⟨gb487, 1, none⟩ = some (.int .i64 t484) ∧ w'.cell? ⟨gb487, 2, none⟩ = some (.int .i64 t485) ∧ w'.cell? ⟨gb477, 0, none⟩ = some (.slice A0_0 l0_0.length c0_0) ∧ w'.cell? ⟨gb477, 1, none⟩ = some (.int .i64 a0_1) ∧ w'.cell? ⟨gb477, 2, none⟩ = some (.int .i64 a0_2) ∧ w'.cell? (ad491.add ((t484).toNat * 3)) = some (.int .i64 ((rd_T41 t481 t484).f0)) ∧ w'.cell? ⟨(ad491.add ((t484).toNat * 3)).block, (ad491.add ((t484).toNat * 3)).off + 1, none⟩ = some (.slice A491_1 ((rd_T41 t481 t484).f1).length c491_1) ∧ w'.cell? ⟨(ad491.add ((t484).toNat * 3)).block, (ad491.add ((t484).toNat * 3)).off + 2, none⟩ = some (.bool ((rd_T41 t481 t484).f2))) (ds := []) (bs 14 0) (by kernel_rfl) rfl rfl ⟨(blk_cell BK487.out 0).trans rfl, (blk_cell BK487.out 1).trans rfl, (blk_cell BK487.out 2).trans rfl, (blk_cell BK477.out 0).trans rfl, (blk_cell BK477.out 1).trans rfl, (blk_cell BK477.out 2).trans rfl, hx491_0, hx491_1, hx491_2⟩ (fun hHeld => ?_); refine with_tabW reelkeeperlaw13_DriveWrites.tab10 reelkeeperlaw13_DriveWrites.bits10 (fun HT_ HW_ => ?_)
             generalize wc.drew = w60 at HO_488000 BK477 BK487 HB HL491_1 HR491_1 hx491_0 hx491_1 hx491_2 hHeld ⊢
             refine pure_ (i := 0) (N := some 90) (v := ?_) (a' := ?_) (bs 14 1) rfl rfl (any_of HT_.out (by kernel_rfl)) (fun _ _ _ h => h) (Or.inl ⟨by rfl, ?_⟩) ?_ ?_; rotate_left
             ·intro w'
              go_simp
              with_reducible rfl
             rotate_left
             ·simp only [Act.put, sA, sB, sC, i64_w, i32_w]
              rfl
             refine pure_ (i := 2) (N := some 92) (v := ?_) (a' := ?_) (bs 14 5) rfl rfl (any_of HT_.out (by kernel_rfl)) (fun _ _ _ h => h) (Or.inl ⟨by rfl, ?_⟩) ?_ ?_; rotate_left
             ·intro w'
              go_simp
              with_reducible rfl
             rotate_left
             ·simp only [Act.put, sA, sB, sC, i64_w, i32_w]
              rfl
             refine pure_ (i := 6) (N := some 96) (v := ?_) (a' := ?_) (bs 14 69) rfl rfl (any_of HT_.out (by kernel_rfl)) (fun _ _ _ h => h) (Or.inl ⟨by rfl, ?_⟩) ?_ ?_; rotate_left
             ·intro w'
              go_simp
              with_reducible rfl
             rotate_left
             ·simp only [Act.put, sA, sB, sC, i64_w, i32_w]
              rfl
             refine take_ (i := 1) (N := some 91) (v := ?_) (a' := ?_) (bs 14 71) rfl rfl (take_ofW HT_.out HW_.out (by kernel_rfl)) (fun _ _ _ h => h) (Or.inl ⟨by rfl, ?_⟩) hHeld ?_ ?_; rotate_left
             ·rintro w' ⟨s0, s1, s2, s3, s4, s5, s6, s7, s8⟩
              go_simp
              with_reducible rfl
             rotate_left
             ·simp only [Act.put, sA, sB, sC, i64_w, i32_w]
              rfl
             refine take_ (i := 3) (N := some 93) (v := ?_) (a' := ?_) (bs 14 79) rfl rfl (take_ofW HT_.out HW_.out (by kernel_rfl)) (fun _ _ _ h => h) (Or.inl ⟨by rfl, ?_⟩) hHeld ?_ ?_; rotate_left
             ·rintro w' ⟨s0, s1, s2, s3, s4, s5, s6, s7, s8⟩
              go_simp
              with_reducible rfl
             rotate_left
             ·simp only [Act.put, sA, sB, sC, i64_w, i32_w]
              rfl
             refine pure_ (i := 4) (N := some 94) (v := ?_) (a' := ?_) (bs 14 95) rfl rfl (any_of HT_.out (by kernel_rfl)) (fun _ _ _ h => h) (Or.inl ⟨by rfl, ?_⟩) ?_ ?_; rotate_left
             ·intro w'
              go_simp
              with_reducible rfl
             rotate_left
             ·simp only [Act.put, sA, sB, sC, i64_w, i32_w]
              rfl
             refine take_ (i := 5) (N := some 95) (v := ?_) (a' := ?_) (bs 14 127) rfl rfl (take_ofW HT_.out HW_.out (by kernel_rfl)) (fun _ _ _ h => h) (Or.inl ⟨by rfl, ?_⟩) hHeld ?_ ?_; rotate_left
             ·rintro w' ⟨s0, s1, s2, s3, s4, s5, s6, s7, s8⟩
              go_simp
              with_reducible rfl
             rotate_left
             ·simp only [Act.put, sA, sB, sC, i64_w, i32_w]
              rfl
             refine take_ (i := 7) (N := some 97) (v := ?_) (a' := ?_) (bs 14 255) rfl rfl (take_ofW HT_.out HW_.out (by kernel_rfl)) (fun _ _ _ h => h) (Or.inl ⟨by rfl, ?_⟩) hHeld ?_ ?_; rotate_left
             ·rintro w' ⟨s0, s1, s2, s3, s4, s5, s6, s7, s8⟩
              go_simp
              with_reducible rfl
             rotate_left
             ·simp only [Act.put, sA, sB, sC, i64_w, i32_w]
              rfl
             refine one_ (i := 8) (N := some 98) (bs 14 511) rfl rfl (one_of HT_.out (by kernel_rfl)) (by decide) (fun K hK => ?_); refine goes_ Try.func29 (by kernel_rfl) rfl #[.agg #[.int .i64 ((rd_T41 t481 t484).f0), .slice A491_1 ((rd_T41 t481 t484).f1).length c491_1, .bool ((rd_T41 t481 t484).f2)], .int .i64 a0_2] (by rfl) rfl rfl (by (try simp only [List.map_toArray, List.map_cons, List.map_nil]); first | done | rfl | (simp only [List.length_drop, List.length_take]; rfl)) ?_
             with_reducible refine (tape_Read.calls ((rd_T41 t481 t484).f0) _ _ ((rd_T41 t481 t484).f1) ((rd_T41 t481 t484).f2) a0_2 t492 t495 _ ?side1 ?side2 A56.out).mono ?_
             (case side1 => repeat (first | exact (by repeat (first | (with_reducible exact HR491_1.out) | (with_reducible refine Kd.C_alloc ?_ _) | (with_reducible refine Kd.C_drewN ?_ _) | (with_reducible refine Kd.C_drew ?_) | exact HR491_1.out)) | (with_reducible refine Kd.C_alloc ?_ _) | (with_reducible refine Kd.C_drewN ?_ _) | (with_reducible refine Kd.C_drew ?_)))
             (case side2 => exact HC491_1.out)
             rintro e w61 ⟨v493, rfl, ho0, hb⟩
             have HS6_ := (hb.cell (World.block_lt_of_cell? _ _ (hHeld.2.2.2.2.2.2.1))).trans (hHeld.2.2.2.2.2.2.1); have HS7_ := (hb.cell (World.block_lt_of_cell? _ _ (hHeld.2.2.2.2.2.2.2.1))).trans (hHeld.2.2.2.2.2.2.2.1); have HS8_ := (hb.cell (World.block_lt_of_cell? _ _ (hHeld.2.2.2.2.2.2.2.2))).trans (hHeld.2.2.2.2.2.2.2.2); refine ⟨_, rfl, ?_⟩; have n0_ := zA (Kd.V_elder' HO_488000.out (Kd.R_base ho0) hb); have n1_ := zA (Kd.V_elder' HL491_1.out (Kd.R_base ho0) hb); have n2_ := zA (Kd.R_lower ho0 (below_size (by repeat (first | (with_reducible first | exact HB.out | apply bL | apply bP | apply bD | refine bS ?_ GE477.out | refine bS ?_ GE487.out) | exact HB.out)))); have n3_ := zA (bK BK477.out hb); have n4_ := zA (bK BK487.out hb); have n5_ := zA (Kd.C_below (by repeat (first | (with_reducible exact HR491_1.out) | (with_reducible refine Kd.C_alloc ?_ _) | (with_reducible refine Kd.C_drewN ?_ _) | (with_reducible refine Kd.C_drew ?_) | exact HR491_1.out)) hb); have n6_ := zA (below_step (by repeat (first | (with_reducible first | exact HB.out | apply bL | apply bP | apply bD | refine bS ?_ GE477.out | refine bS ?_ GE487.out) | exact HB.out)) hb); clear HO_488000; clear HL491_1; clear BK477; clear BK487; clear HR491_1; clear HB; have HO_488000 := n0_; have HL491_1 := n1_; have HO494 := n2_; have BK477 := n3_; have BK487 := n4_; have HR491_1 := n5_; have HB := n6_; clear n0_ n1_ n2_ n3_ n4_ n5_ n6_
             (try clear hb)
             (try clear hb2)
             (try clear hk)
             (try clear hi)
             (try clear ho0)
             refine hK.out _ _ ⟨(blk_cell BK487.out 0).trans rfl, (blk_cell BK487.out 1).trans rfl, (blk_cell BK487.out 2).trans rfl, (blk_cell BK477.out 0).trans rfl, (blk_cell BK477.out 1).trans rfl, (blk_cell BK477.out 2).trans rfl, HS6_, HS7_, HS8_⟩ (fun hHeld => ?_); clear hK K; refine norm_ (a' := ?_) ?_ ?_; rotate_left
             ·show Act.put _ (some 98) _ = _
              simp only [Act.put, sA, sB, sC, i64_w, i32_w]
              rfl
             refine pure_ (i := 9) (N := some 89) (v := ?_) (a' := ?_) (bs 14 1023) rfl rfl (any_of HT_.out (by kernel_rfl)) (fun _ _ _ h => h) (Or.inl ⟨by rfl, ?_⟩) ?_ ?_; rotate_left
             ·intro w'
              go_simp
              with_reducible rfl
             rotate_left
             ·simp only [Act.put, sA, sB, sC, i64_w, i32_w]
              rfl
             refine pure_ (i := 10) (N := some 99) (v := ?_) (a' := ?_) (bs 14 2047) rfl rfl (any_of HT_.out (by kernel_rfl)) (fun _ _ _ h => h) (Or.inl ⟨by rfl, ?_⟩) ?_ ?_; rotate_left
             ·intro w'
              go_simp
              with_reducible rfl
             rotate_left
             ·simp only [Act.put, sA, sB, sC, i64_w, i32_w]
              rfl
             refine pure_ (i := 11) (N := some 100) (v := ?_) (a' := ?_) (bs 14 4095) rfl rfl (any_of HT_.out (by kernel_rfl)) (fun _ _ _ h => h) (Or.inl ⟨by rfl, ?_⟩) ?_ ?_; rotate_left
             ·intro w'
              go_simp
              with_reducible rfl
             rotate_left
             ·simp only [Act.put, sA, sB, sC, i64_w, i32_w]
              rfl
             refine pure_ (i := 12) (N := some 11) (v := ?_) (a' := ?_) (bs 14 8191) rfl rfl (any_of HT_.out (by kernel_rfl)) (fun _ _ _ h => h) (Or.inl ⟨by rfl, ?_⟩) ?_ ?_; rotate_left
             ·intro w'
              go_simp
              with_reducible rfl
             rotate_left
             ·simp only [Act.put, sA, sB, sC, i64_w, i32_w]
              rfl
             refine pure_ (i := 13) (N := some 12) (v := ?_) (a' := ?_) (bs 14 16383) rfl rfl (any_of HT_.out (by kernel_rfl)) (fun _ _ _ h => h) (Or.inl ⟨by rfl, ?_⟩) ?_ ?_; rotate_left
             ·intro w'
              go_simp
              with_reducible rfl
             rotate_left
             ·simp only [Act.put, sA, sB, sC, i64_w, i32_w]
              rfl
             refine done_ (done_of HT_.out (by kernel_rfl)) ?_
             try go_wp2
             have n0_ := zA (Kd.V_drew HO_488000.out); have n1_ := zA (Kd.V_drew HL491_1.out); have n2_ := zA (Kd.R_drew HO494.out); have n3_ := zA (bW BK477.out); have n4_ := zA (bW BK487.out); have n5_ := zA (Kd.C_drew HR491_1.out); have n6_ := zA (bD HB.out); clear HO_488000; clear HL491_1; clear HO494; clear BK477; clear BK487; clear HR491_1; clear HB; have HO_488000 := n0_; have HL491_1 := n1_; have HO494 := n2_; have BK477 := n3_; have BK487 := n4_; have HR491_1 := n5_; have HB := n6_; clear n0_ n1_ n2_ n3_ n4_ n5_ n6_
             have hcv63 := own_string (P := Try.prog) Try.underlying25 Try.underlying5 Try.underlying9 (Kd.own_of_R HO494.out); have hcv63q := fun (m_ : Nat) => own_string (P := Try.prog) Try.underlying25 Try.underlying5 Try.underlying9 (Kd.own_of_R (Kd.R_drewN HO494.out m_))
             have hcv64 := Kd.C_string (P := Try.prog) (A := A1) (c := c1) Try.underlying25 Try.underlying5 Try.underlying9 (Kd.C_below HR1.out HB.out); have hcv64q := fun (m_ : Nat) => Kd.C_string (P := Try.prog) (A := A1) (c := c1) Try.underlying25 Try.underlying5 Try.underlying9 (Kd.C_drewN (Kd.C_below HR1.out HB.out) m_)
             refine start_ (n := 40) (S := fun w' => (convert 25 9 v493).run Try.prog w' = .ok (.string (strOfNums t492)) w' ∧ (convert 25 9 (.slice A1 l1.length c1)).run Try.prog w' = .ok (.string (strOfNums l1)) w' ∧ True) (ds := []) (bs 40 0) (by kernel_rfl) rfl rfl ⟨hcv63, hcv64, trivial⟩ (fun hHeld => ?_); refine with_tabW reelkeeperlaw13_DriveWrites.tab11 reelkeeperlaw13_DriveWrites.bits11 (fun HT_ HW_ => ?_)
             generalize w61.drew = w62 at HO_488000 HL491_1 HO494 BK477 BK487 HR491_1 HB hHeld ⊢
             refine pure_ (i := 0) (N := some 101) (v := ?_) (a' := ?_) (bs 40 1) rfl rfl (any_of HT_.out (by kernel_rfl)) (fun _ _ _ h => h) (Or.inl ⟨by rfl, ?_⟩) ?_ ?_; rotate_left
             ·intro w'
              go_simp
              with_reducible rfl
             rotate_left
             ·simp only [Act.put, sA, sB, sC, i64_w, i32_w]
              rfl
             refine pure_ (i := 1) (N := some 102) (v := ?_) (a' := ?_) (bs 40 3) rfl rfl (any_of HT_.out (by kernel_rfl)) (fun _ _ _ h => h) (Or.inl ⟨by rfl, ?_⟩) ?_ ?_; rotate_left
             ·intro w'
              go_simp
              with_reducible rfl
             rotate_left
             ·simp only [Act.put, sA, sB, sC, i64_w, i32_w]
              rfl
             refine pure_ (i := 2) (N := some 103) (v := ?_) (a' := ?_) (bs 40 7) rfl rfl (any_of HT_.out (by kernel_rfl)) (fun _ _ _ h => h) (Or.inl ⟨by rfl, ?_⟩) ?_ ?_; rotate_left
             ·intro w'
              go_simp
              with_reducible rfl
             rotate_left
             ·simp only [Act.put, sA, sB, sC, i64_w, i32_w]
              rfl
             refine pure_ (i := 3) (N := some 104) (v := ?_) (a' := ?_) (bs 40 15) rfl rfl (any_of HT_.out (by kernel_rfl)) (fun _ _ _ h => h) (Or.inl ⟨by rfl, ?_⟩) ?_ ?_; rotate_left
             ·intro w'
              go_simp
              with_reducible rfl
             rotate_left
             ·simp only [Act.put, sA, sB, sC, i64_w, i32_w]
              rfl
             refine take_ (i := 4) (N := some 105) (v := ?_) (a' := ?_) (bs 40 31) rfl rfl (take_ofW HT_.out HW_.out (by kernel_rfl)) (fun _ _ _ h => h) (Or.inl ⟨by rfl, ?_⟩) hHeld ?_ ?_; rotate_left
             ·rintro w' ⟨sa, sb, s⟩
              go_simp
              with_reducible rfl
             rotate_left
             ·simp only [Act.put, sA, sB, sC, i64_w, i32_w]
              rfl
             refine pure_ (i := 5) (N := some 106) (v := ?_) (a' := ?_) (bs 40 63) rfl rfl (any_of HT_.out (by kernel_rfl)) (fun _ _ _ h => h) (Or.inl ⟨by rfl, ?_⟩) ?_ ?_; rotate_left
             ·intro w'
              go_simp
              with_reducible rfl
             rotate_left
             ·simp only [Act.put, sA, sB, sC, i64_w, i32_w]
              rfl
             refine take_ (i := 6) (N := some 107) (v := ?_) (a' := ?_) (bs 40 127) rfl rfl (take_ofW HT_.out HW_.out (by kernel_rfl)) (fun _ _ _ h => h) (Or.inl ⟨by rfl, ?_⟩) hHeld ?_ ?_; rotate_left
             ·rintro w' ⟨sa, sb, s⟩
              go_simp
              with_reducible rfl
             rotate_left
             ·simp only [Act.put, sA, sB, sC, i64_w, i32_w]
              rfl
             refine pure_ (i := 7) (N := some 108) (v := ?_) (a' := ?_) (bs 40 255) rfl rfl (any_of HT_.out (by kernel_rfl)) (fun _ _ _ h => h) (Or.inl ⟨by rfl, ?_⟩) ?_ ?_; rotate_left
             ·intro w'
              go_simp
              with_reducible rfl
             rotate_left
             ·simp only [Act.put, sA, sB, sC, i64_w, i32_w]
              rfl
             refine pure_ (i := 8) (N := some 109) (v := ?_) (a' := ?_) (bs 40 511) rfl rfl (any_of HT_.out (by kernel_rfl)) (fun _ _ _ h => h) (Or.inl ⟨by rfl, ?_⟩) ?_ ?_; rotate_left
             ·intro w'
              go_simp
              with_reducible rfl
             rotate_left
             ·simp only [Act.put, sA, sB, sC, i64_w, i32_w]
              rfl
             refine pure_ (i := 9) (N := some 110) (v := ?_) (a' := ?_) (bs 40 1023) rfl rfl (any_of HT_.out (by kernel_rfl)) (fun _ _ _ h => h) (Or.inl ⟨by rfl, ?_⟩) ?_ ?_; rotate_left
             ·intro w'
              go_simp
              with_reducible rfl
             rotate_left
             ·simp only [Act.put, sA, sB, sC, i64_w, i32_w]
              rfl
             refine pure_ (i := 10) (N := some 111) (v := ?_) (a' := ?_) (bs 40 2047) rfl rfl (any_of HT_.out (by kernel_rfl)) (fun _ _ _ h => h) (Or.inl ⟨by rfl, ?_⟩) ?_ ?_; rotate_left
             ·intro w'
              go_simp
              with_reducible rfl
             rotate_left
             ·simp only [Act.put, sA, sB, sC, i64_w, i32_w]
              rfl
             refine pure_ (i := 11) (N := some 112) (v := ?_) (a' := ?_) (bs 40 4095) rfl rfl (any_of HT_.out (by kernel_rfl)) (fun _ _ _ h => h) (Or.inl ⟨by rfl, ?_⟩) ?_ ?_; rotate_left
             ·intro w'
              go_simp
              with_reducible rfl
             rotate_left
             ·simp only [Act.put, sA, sB, sC, i64_w, i32_w]
              rfl
             refine pure_ (i := 12) (N := some 113) (v := ?_) (a' := ?_) (bs 40 8191) rfl rfl (any_of HT_.out (by kernel_rfl)) (fun _ _ _ h => h) (Or.inl ⟨by rfl, ?_⟩) ?_ ?_; rotate_left
             ·intro w'
              go_simp
              with_reducible rfl
             rotate_left
             ·simp only [Act.put, sA, sB, sC, i64_w, i32_w]
              rfl
             refine pure_ (i := 13) (N := some 114) (v := undef) (a' := ?_) (bs 40 16383) rfl rfl (any_of HT_.out (by kernel_rfl)) (fun _ _ _ h => h) (Or.inr ⟨by rfl, rfl⟩) ?_ ?_; rotate_left
             ·simp only [Act.put, sA, sB, sC, i64_w, i32_w]
              rfl
             refine pure_ (i := 14) (N := some 115) (v := undef) (a' := ?_) (bs 40 32767) rfl rfl (any_of HT_.out (by kernel_rfl)) (fun _ _ _ h => h) (Or.inr ⟨by rfl, rfl⟩) ?_ ?_; rotate_left
             ·simp only [Act.put, sA, sB, sC, i64_w, i32_w]
              rfl
             refine pure_ (i := 15) (N := some 116) (v := undef) (a' := ?_) (bs 40 65535) rfl rfl (any_of HT_.out (by kernel_rfl)) (fun _ _ _ h => h) (Or.inr ⟨by rfl, rfl⟩) ?_ ?_; rotate_left
             ·simp only [Act.put, sA, sB, sC, i64_w, i32_w]
              rfl
             refine pure_ (i := 16) (N := some 117) (v := undef) (a' := ?_) (bs 40 131071) rfl rfl (any_of HT_.out (by kernel_rfl)) (fun _ _ _ h => h) (Or.inr ⟨by rfl, rfl⟩) ?_ ?_; rotate_left
             ·simp only [Act.put, sA, sB, sC, i64_w, i32_w]
              rfl
             refine pure_ (i := 17) (N := some 118) (v := undef) (a' := ?_) (bs 40 262143) rfl rfl (any_of HT_.out (by kernel_rfl)) (fun _ _ _ h => h) (Or.inr ⟨by rfl, rfl⟩) ?_ ?_; rotate_left
             ·simp only [Act.put, sA, sB, sC, i64_w, i32_w]
              rfl
             refine pure_ (i := 18) (N := some 119) (v := ?_) (a' := ?_) (bs 40 524287) rfl rfl (any_of HT_.out (by kernel_rfl)) (fun _ _ _ h => h) (Or.inl ⟨by rfl, ?_⟩) ?_ ?_; rotate_left
             ·intro w'
              go_simp
              with_reducible rfl
             rotate_left
             ·simp only [Act.put, sA, sB, sC, i64_w, i32_w]
              rfl
             refine pure_ (i := 19) (N := some 120) (v := ?_) (a' := ?_) (bs 40 1048575) rfl rfl (any_of HT_.out (by kernel_rfl)) (fun _ _ _ h => h) (Or.inl ⟨by rfl, ?_⟩) ?_ ?_; rotate_left
             ·intro w'
              go_simp
              with_reducible rfl
             rotate_left
             ·simp only [Act.put, sA, sB, sC, i64_w, i32_w]
              rfl
             refine pure_ (i := 20) (N := some 121) (v := undef) (a' := ?_) (bs 40 2097151) rfl rfl (any_of HT_.out (by kernel_rfl)) (fun _ _ _ h => h) (Or.inr ⟨by rfl, rfl⟩) ?_ ?_; rotate_left
             ·simp only [Act.put, sA, sB, sC, i64_w, i32_w]
              rfl
             refine pure_ (i := 21) (N := some 122) (v := undef) (a' := ?_) (bs 40 4194303) rfl rfl (any_of HT_.out (by kernel_rfl)) (fun _ _ _ h => h) (Or.inr ⟨by rfl, rfl⟩) ?_ ?_; rotate_left
             ·simp only [Act.put, sA, sB, sC, i64_w, i32_w]
              rfl
             refine pure_ (i := 22) (N := some 123) (v := undef) (a' := ?_) (bs 40 8388607) rfl rfl (any_of HT_.out (by kernel_rfl)) (fun _ _ _ h => h) (Or.inr ⟨by rfl, rfl⟩) ?_ ?_; rotate_left
             ·simp only [Act.put, sA, sB, sC, i64_w, i32_w]
              rfl
             refine pure_ (i := 23) (N := some 124) (v := undef) (a' := ?_) (bs 40 16777215) rfl rfl (any_of HT_.out (by kernel_rfl)) (fun _ _ _ h => h) (Or.inr ⟨by rfl, rfl⟩) ?_ ?_; rotate_left
             ·simp only [Act.put, sA, sB, sC, i64_w, i32_w]
              rfl
             refine pure_ (i := 24) (N := some 125) (v := ?_) (a' := ?_) (bs 40 33554431) rfl rfl (any_of HT_.out (by kernel_rfl)) (fun _ _ _ h => h) (Or.inl ⟨by rfl, ?_⟩) ?_ ?_; rotate_left
             ·intro w'
              go_simp
              with_reducible rfl
             rotate_left
             ·simp only [Act.put, sA, sB, sC, i64_w, i32_w]
              rfl
             refine pure_ (i := 25) (N := some 126) (v := ?_) (a' := ?_) (bs 40 67108863) rfl rfl (any_of HT_.out (by kernel_rfl)) (fun _ _ _ h => h) (Or.inl ⟨by rfl, ?_⟩) ?_ ?_; rotate_left
             ·intro w'
              go_simp
              with_reducible rfl
             rotate_left
             ·simp only [Act.put, sA, sB, sC, i64_w, i32_w]
              rfl
             refine pure_ (i := 26) (N := some 127) (v := undef) (a' := ?_) (bs 40 134217727) rfl rfl (any_of HT_.out (by kernel_rfl)) (fun _ _ _ h => h) (Or.inr ⟨by rfl, rfl⟩) ?_ ?_; rotate_left
             ·simp only [Act.put, sA, sB, sC, i64_w, i32_w]
              rfl
             refine pure_ (i := 27) (N := some 128) (v := undef) (a' := ?_) (bs 40 268435455) rfl rfl (any_of HT_.out (by kernel_rfl)) (fun _ _ _ h => h) (Or.inr ⟨by rfl, rfl⟩) ?_ ?_; rotate_left
             ·simp only [Act.put, sA, sB, sC, i64_w, i32_w]
              rfl
             refine pure_ (i := 28) (N := some 129) (v := undef) (a' := ?_) (bs 40 536870911) rfl rfl (any_of HT_.out (by kernel_rfl)) (fun _ _ _ h => h) (Or.inr ⟨by rfl, rfl⟩) ?_ ?_; rotate_left
             ·simp only [Act.put, sA, sB, sC, i64_w, i32_w]
              rfl
             refine pure_ (i := 29) (N := some 130) (v := undef) (a' := ?_) (bs 40 1073741823) rfl rfl (any_of HT_.out (by kernel_rfl)) (fun _ _ _ h => h) (Or.inr ⟨by rfl, rfl⟩) ?_ ?_; rotate_left
             ·simp only [Act.put, sA, sB, sC, i64_w, i32_w]
              rfl
             refine pure_ (i := 30) (N := some 131) (v := undef) (a' := ?_) (bs 40 2147483647) rfl rfl (any_of HT_.out (by kernel_rfl)) (fun _ _ _ h => h) (Or.inr ⟨by rfl, rfl⟩) ?_ ?_; rotate_left
             ·simp only [Act.put, sA, sB, sC, i64_w, i32_w]
              rfl
             refine pure_ (i := 31) (N := some 132) (v := undef) (a' := ?_) (bs 40 4294967295) rfl rfl (any_of HT_.out (by kernel_rfl)) (fun _ _ _ h => h) (Or.inr ⟨by rfl, rfl⟩) ?_ ?_; rotate_left
             ·simp only [Act.put, sA, sB, sC, i64_w, i32_w]
              rfl
             refine pure_ (i := 32) (N := some 133) (v := undef) (a' := ?_) (bs 40 8589934591) rfl rfl (any_of HT_.out (by kernel_rfl)) (fun _ _ _ h => h) (Or.inr ⟨by rfl, rfl⟩) ?_ ?_; rotate_left
             ·simp only [Act.put, sA, sB, sC, i64_w, i32_w]
              rfl
             refine pure_ (i := 33) (N := some 134) (v := undef) (a' := ?_) (bs 40 17179869183) rfl rfl (any_of HT_.out (by kernel_rfl)) (fun _ _ _ h => h) (Or.inr ⟨by rfl, rfl⟩) ?_ ?_; rotate_left
             ·simp only [Act.put, sA, sB, sC, i64_w, i32_w]
              rfl
             refine pure_ (i := 34) (N := some 135) (v := undef) (a' := ?_) (bs 40 34359738367) rfl rfl (any_of HT_.out (by kernel_rfl)) (fun _ _ _ h => h) (Or.inr ⟨by rfl, rfl⟩) ?_ ?_; rotate_left
             ·simp only [Act.put, sA, sB, sC, i64_w, i32_w]
              rfl
             refine pure_ (i := 35) (N := some 136) (v := undef) (a' := ?_) (bs 40 68719476735) rfl rfl (any_of HT_.out (by kernel_rfl)) (fun _ _ _ h => h) (Or.inr ⟨by rfl, rfl⟩) ?_ ?_; rotate_left
             ·simp only [Act.put, sA, sB, sC, i64_w, i32_w]
              rfl
             refine pure_ (i := 36) (N := some 137) (v := undef) (a' := ?_) (bs 40 137438953471) rfl rfl (any_of HT_.out (by kernel_rfl)) (fun _ _ _ h => h) (Or.inr ⟨by rfl, rfl⟩) ?_ ?_; rotate_left
             ·simp only [Act.put, sA, sB, sC, i64_w, i32_w]
              rfl
             refine pure_ (i := 37) (N := some 138) (v := ?_) (a' := ?_) (bs 40 274877906943) rfl rfl (any_of HT_.out (by kernel_rfl)) (fun _ _ _ h => h) (Or.inl ⟨by rfl, ?_⟩) ?_ ?_; rotate_left
             ·intro w'
              go_simp
              with_reducible rfl
             rotate_left
             ·simp only [Act.put, sA, sB, sC, i64_w, i32_w]
              rfl
             refine pure_ (i := 38) (N := some 139) (v := ?_) (a' := ?_) (bs 40 549755813887) rfl rfl (any_of HT_.out (by kernel_rfl)) (fun _ _ _ h => h) (Or.inl ⟨by rfl, ?_⟩) ?_ ?_; rotate_left
             ·intro w'
              go_simp
              with_reducible rfl
             rotate_left
             ·simp only [Act.put, sA, sB, sC, i64_w, i32_w]
              rfl
             refine pure_ (i := 39) (N := some 6) (v := ?_) (a' := ?_) (bs 40 1099511627775) rfl rfl (any_of HT_.out (by kernel_rfl)) (fun _ _ _ h => h) (Or.inl ⟨by rfl, ?_⟩) ?_ ?_; rotate_left
             ·intro w'
              go_simp
              with_reducible rfl
             rotate_left
             ·simp only [Act.put, sA, sB, sC, i64_w, i32_w]
              rfl
             refine done_ (done_of HT_.out (by kernel_rfl)) ?_
             try go_wp2
             go_ret
             exact ⟨by first | rfl | (simp [errW_none, errW_some] <;> rfl) | (simp [*, errW_none, errW_some] <;> rfl), by repeat (first | (with_reducible first | exact HB.out | apply bL | apply bP | apply bD | refine bS ?_ GE477.out | refine bS ?_ GE487.out) | exact HB.out)⟩
            ·as_aux_lemma =>
             rw [if_neg c59] at H
             have c59b0 : decide (a2 < 0) = false := decide_eq_false c59; clear c59
             by_cases c66 : a2 ≥ (l0_0.length : Int)
             ·as_aux_lemma =>
              rw [if_pos c66] at H
              have c66b0 : decide ((l0_0.length : Int) ≤ a2) = true := decide_eq_true c66; clear c66; obtain rfl := Option.some.inj H
              try go_wp2
              have n0_ := zA (Kd.V_drew HO_488000.out); have n1_ := zA (bW BK477.out); have n2_ := zA (bW BK487.out); have n3_ := zA (bD HB.out); clear HO_488000; clear BK477; clear BK487; clear HB; have HO_488000 := n0_; have BK477 := n1_; have BK487 := n2_; have HB := n3_; clear n0_ n1_ n2_ n3_; have p491 : 0 ≤ (t484 : Int) := of_decide_eq_true (by assumption); have q491 : t484 < (t481.length : Int) := of_decide_eq_true (by assumption); obtain ⟨ad491, A491_1, c491_1, e491, hx491_0, hx491_1, hx491_2, hl491_1, hi491_1⟩ := at_T41 (Kd.V_reads' HO_488000.out).2.2 t484 p491 q491; cases e491; obtain ⟨ce491, hce491, hMe491, hcc491⟩ := Kd.V_get HO_488000.out z41 t484 p491 (by first | exact q491 | exact of_decide_eq_true (by assumption) | (have e_ := (Kd.V_reads' HO_488000.out).1; omega)); obtain ⟨ua491_1, uc491_1, rfl, ul491_1, ge491_1⟩ := k41_openF hMe491; have hv491_1 := hcc491 1 _ rfl
              rw [add_field _ _ 1 (by omega)] at hv491_1
              replace hv491_1 := Option.some.inj (hv491_1.symm.trans hx491_1)
              injection hv491_1 with hva_ hvn_ hvc_
              rw [hva_] at ge491_1
              rw [hvc_] at ul491_1
              have HL491_1 := zA (show Kd.V (Kd.slice 5 (Kd.int .u8)) 25 _ w.heap.size _ _ ((rd_T41 t481 t484).f1) from Kd.V_mk ul491_1 ge491_1); clear hva_ hvn_ hvc_ ge491_1 ul491_1; clear hcc491 hce491; have HR491_1 := zA hi491_1; have HC491_1 := zA hl491_1; clear hi491_1 hl491_1; replace p491 := eq_true p491; replace q491 := eq_true q491; refine start_ (n := 14) (S := fun w' => w'.cell? ⟨gb487, 0, none⟩ = some (.slice (some ad491) t481.length co24) ∧ w'.cell? ⟨gb487, 1, none⟩ = some (.int .i64 t484) ∧ w'.cell? ⟨gb487, 2, none⟩ = some (.int .i64 t485) ∧ w'.cell? ⟨gb477, 0, none⟩ = some (.slice A0_0 l0_0.length c0_0) ∧ w'.cell? ⟨gb477, 1, none⟩ = some (.int .i64 a0_1) ∧ w'.cell? ⟨gb477, 2, none⟩ = some (.int .i64 a0_2) ∧ w'.cell? (ad491.add ((t484).toNat * 3)) = some (.int .i64 ((rd_T41 t481 t484).f0)) ∧ w'.cell? ⟨(ad491.add ((t484).toNat * 3)).block, (ad491.add ((t484).toNat * 3)).off + 1, none⟩ = some (.slice A491_1 ((rd_T41 t481 t484).f1).length c491_1) ∧ w'.cell? ⟨(ad491.add ((t484).toNat * 3)).block, (ad491.add ((t484).toNat * 3)).off + 2, none⟩ = some (.bool ((rd_T41 t481 t484).f2))) (ds := []) (bs 14 0) (by kernel_rfl) rfl rfl ⟨(blk_cell BK487.out 0).trans rfl, (blk_cell BK487.out 1).trans rfl, (blk_cell BK487.out 2).trans rfl, (blk_cell BK477.out 0).trans rfl, (blk_cell BK477.out 1).trans rfl, (blk_cell BK477.out 2).trans rfl, hx491_0, hx491_1, hx491_2⟩ (fun hHeld => ?_); refine with_tabW reelkeeperlaw13_DriveWrites.tab10 reelkeeperlaw13_DriveWrites.bits10 (fun HT_ HW_ => ?_)
              generalize wc.drew = w67 at HO_488000 BK477 BK487 HB HL491_1 HR491_1 hx491_0 hx491_1 hx491_2 hHeld ⊢
              refine pure_ (i := 0) (N := some 90) (v := ?_) (a' := ?_) (bs 14 1) rfl rfl (any_of HT_.out (by kernel_rfl)) (fun _ _ _ h => h) (Or.inl ⟨by rfl, ?_⟩) ?_ ?_; rotate_left
              ·intro w'
               go_simp
               with_reducible rfl
              rotate_left
              ·simp only [Act.put, sA, sB, sC, i64_w, i32_w]
               rfl
              refine pure_ (i := 2) (N := some 92) (v := ?_) (a' := ?_) (bs 14 5) rfl rfl (any_of HT_.out (by kernel_rfl)) (fun _ _ _ h => h) (Or.inl ⟨by rfl, ?_⟩) ?_ ?_; rotate_left
              ·intro w'
               go_simp
               with_reducible rfl
              rotate_left
              ·simp only [Act.put, sA, sB, sC, i64_w, i32_w]
               rfl
              refine pure_ (i := 6) (N := some 96) (v := ?_) (a' := ?_) (bs 14 69) rfl rfl (any_of HT_.out (by kernel_rfl)) (fun _ _ _ h => h) (Or.inl ⟨by rfl, ?_⟩) ?_ ?_; rotate_left
              ·intro w'
               go_simp
               with_reducible rfl
              rotate_left
              ·simp only [Act.put, sA, sB, sC, i64_w, i32_w]
               rfl
              refine take_ (i := 1) (N := some 91) (v := ?_) (a' := ?_) (bs 14 71) rfl rfl (take_ofW HT_.out HW_.out (by kernel_rfl)) (fun _ _ _ h => h) (Or.inl ⟨by rfl, ?_⟩) hHeld ?_ ?_; rotate_left
              ·rintro w' ⟨s0, s1, s2, s3, s4, s5, s6, s7, s8⟩
               go_simp
               with_reducible rfl
              rotate_left
              ·simp only [Act.put, sA, sB, sC, i64_w, i32_w]
               rfl
              refine take_ (i := 3) (N := some 93) (v := ?_) (a' := ?_) (bs 14 79) rfl rfl (take_ofW HT_.out HW_.out (by kernel_rfl)) (fun _ _ _ h => h) (Or.inl ⟨by rfl, ?_⟩) hHeld ?_ ?_; rotate_left
              ·rintro w' ⟨s0, s1, s2, s3, s4, s5, s6, s7, s8⟩
               go_simp
               with_reducible rfl
              rotate_left
              ·simp only [Act.put, sA, sB, sC, i64_w, i32_w]
               rfl
              refine pure_ (i := 4) (N := some 94) (v := ?_) (a' := ?_) (bs 14 95) rfl rfl (any_of HT_.out (by kernel_rfl)) (fun _ _ _ h => h) (Or.inl ⟨by rfl, ?_⟩) ?_ ?_; rotate_left
              ·intro w'
               go_simp
               with_reducible rfl
              rotate_left
              ·simp only [Act.put, sA, sB, sC, i64_w, i32_w]
               rfl
              refine take_ (i := 5) (N := some 95) (v := ?_) (a' := ?_) (bs 14 127) rfl rfl (take_ofW HT_.out HW_.out (by kernel_rfl)) (fun _ _ _ h => h) (Or.inl ⟨by rfl, ?_⟩) hHeld ?_ ?_; rotate_left
              ·rintro w' ⟨s0, s1, s2, s3, s4, s5, s6, s7, s8⟩
               go_simp
               with_reducible rfl
              rotate_left
              ·simp only [Act.put, sA, sB, sC, i64_w, i32_w]
               rfl
              refine take_ (i := 7) (N := some 97) (v := ?_) (a' := ?_) (bs 14 255) rfl rfl (take_ofW HT_.out HW_.out (by kernel_rfl)) (fun _ _ _ h => h) (Or.inl ⟨by rfl, ?_⟩) hHeld ?_ ?_; rotate_left
              ·rintro w' ⟨s0, s1, s2, s3, s4, s5, s6, s7, s8⟩
               go_simp
               with_reducible rfl
              rotate_left
              ·simp only [Act.put, sA, sB, sC, i64_w, i32_w]
               rfl
              refine one_ (i := 8) (N := some 98) (bs 14 511) rfl rfl (one_of HT_.out (by kernel_rfl)) (by decide) (fun K hK => ?_); refine goes_ Try.func29 (by kernel_rfl) rfl #[.agg #[.int .i64 ((rd_T41 t481 t484).f0), .slice A491_1 ((rd_T41 t481 t484).f1).length c491_1, .bool ((rd_T41 t481 t484).f2)], .int .i64 a0_2] (by rfl) rfl rfl (by (try simp only [List.map_toArray, List.map_cons, List.map_nil]); first | done | rfl | (simp only [List.length_drop, List.length_take]; rfl)) ?_
              with_reducible refine (tape_Read.calls ((rd_T41 t481 t484).f0) _ _ ((rd_T41 t481 t484).f1) ((rd_T41 t481 t484).f2) a0_2 t492 t495 _ ?side1 ?side2 A56.out).mono ?_
              (case side1 => repeat (first | exact (by repeat (first | (with_reducible exact HR491_1.out) | (with_reducible refine Kd.C_alloc ?_ _) | (with_reducible refine Kd.C_drewN ?_ _) | (with_reducible refine Kd.C_drew ?_) | exact HR491_1.out)) | (with_reducible refine Kd.C_alloc ?_ _) | (with_reducible refine Kd.C_drewN ?_ _) | (with_reducible refine Kd.C_drew ?_)))
              (case side2 => exact HC491_1.out)
              rintro e w68 ⟨v493, rfl, ho0, hb⟩
              have HS6_ := (hb.cell (World.block_lt_of_cell? _ _ (hHeld.2.2.2.2.2.2.1))).trans (hHeld.2.2.2.2.2.2.1); have HS7_ := (hb.cell (World.block_lt_of_cell? _ _ (hHeld.2.2.2.2.2.2.2.1))).trans (hHeld.2.2.2.2.2.2.2.1); have HS8_ := (hb.cell (World.block_lt_of_cell? _ _ (hHeld.2.2.2.2.2.2.2.2))).trans (hHeld.2.2.2.2.2.2.2.2); refine ⟨_, rfl, ?_⟩; have n0_ := zA (Kd.V_elder' HO_488000.out (Kd.R_base ho0) hb); have n1_ := zA (Kd.V_elder' HL491_1.out (Kd.R_base ho0) hb); have n2_ := zA (Kd.R_lower ho0 (below_size (by repeat (first | (with_reducible first | exact HB.out | apply bL | apply bP | apply bD | refine bS ?_ GE477.out | refine bS ?_ GE487.out) | exact HB.out)))); have n3_ := zA (bK BK477.out hb); have n4_ := zA (bK BK487.out hb); have n5_ := zA (Kd.C_below (by repeat (first | (with_reducible exact HR491_1.out) | (with_reducible refine Kd.C_alloc ?_ _) | (with_reducible refine Kd.C_drewN ?_ _) | (with_reducible refine Kd.C_drew ?_) | exact HR491_1.out)) hb); have n6_ := zA (below_step (by repeat (first | (with_reducible first | exact HB.out | apply bL | apply bP | apply bD | refine bS ?_ GE477.out | refine bS ?_ GE487.out) | exact HB.out)) hb); clear HO_488000; clear HL491_1; clear BK477; clear BK487; clear HR491_1; clear HB; have HO_488000 := n0_; have HL491_1 := n1_; have HO494 := n2_; have BK477 := n3_; have BK487 := n4_; have HR491_1 := n5_; have HB := n6_; clear n0_ n1_ n2_ n3_ n4_ n5_ n6_
              (try clear hb)
              (try clear hb2)
              (try clear hk)
              (try clear hi)
              (try clear ho0)
              refine hK.out _ _ ⟨(blk_cell BK487.out 0).trans rfl, (blk_cell BK487.out 1).trans rfl, (blk_cell BK487.out 2).trans rfl, (blk_cell BK477.out 0).trans rfl, (blk_cell BK477.out 1).trans rfl, (blk_cell BK477.out 2).trans rfl, HS6_, HS7_, HS8_⟩ (fun hHeld => ?_); clear hK K; refine norm_ (a' := ?_) ?_ ?_; rotate_left
              ·show Act.put _ (some 98) _ = _
               simp only [Act.put, sA, sB, sC, i64_w, i32_w]
               rfl
              refine pure_ (i := 9) (N := some 89) (v := ?_) (a' := ?_) (bs 14 1023) rfl rfl (any_of HT_.out (by kernel_rfl)) (fun _ _ _ h => h) (Or.inl ⟨by rfl, ?_⟩) ?_ ?_; rotate_left
              ·intro w'
               go_simp
               with_reducible rfl
              rotate_left
              ·simp only [Act.put, sA, sB, sC, i64_w, i32_w]
               rfl
              refine pure_ (i := 10) (N := some 99) (v := ?_) (a' := ?_) (bs 14 2047) rfl rfl (any_of HT_.out (by kernel_rfl)) (fun _ _ _ h => h) (Or.inl ⟨by rfl, ?_⟩) ?_ ?_; rotate_left
              ·intro w'
               go_simp
               with_reducible rfl
              rotate_left
              ·simp only [Act.put, sA, sB, sC, i64_w, i32_w]
               rfl
              refine pure_ (i := 11) (N := some 100) (v := ?_) (a' := ?_) (bs 14 4095) rfl rfl (any_of HT_.out (by kernel_rfl)) (fun _ _ _ h => h) (Or.inl ⟨by rfl, ?_⟩) ?_ ?_; rotate_left
              ·intro w'
               go_simp
               with_reducible rfl
              rotate_left
              ·simp only [Act.put, sA, sB, sC, i64_w, i32_w]
               rfl
              refine pure_ (i := 12) (N := some 11) (v := ?_) (a' := ?_) (bs 14 8191) rfl rfl (any_of HT_.out (by kernel_rfl)) (fun _ _ _ h => h) (Or.inl ⟨by rfl, ?_⟩) ?_ ?_; rotate_left
              ·intro w'
               go_simp
               with_reducible rfl
              rotate_left
              ·simp only [Act.put, sA, sB, sC, i64_w, i32_w]
               rfl
              refine pure_ (i := 13) (N := some 12) (v := ?_) (a' := ?_) (bs 14 16383) rfl rfl (any_of HT_.out (by kernel_rfl)) (fun _ _ _ h => h) (Or.inl ⟨by rfl, ?_⟩) ?_ ?_; rotate_left
              ·intro w'
               go_simp
               with_reducible rfl
              rotate_left
              ·simp only [Act.put, sA, sB, sC, i64_w, i32_w]
               rfl
              refine done_ (done_of HT_.out (by kernel_rfl)) ?_
              try go_wp2
              have n0_ := zA (Kd.V_drew HO_488000.out); have n1_ := zA (Kd.V_drew HL491_1.out); have n2_ := zA (Kd.R_drew HO494.out); have n3_ := zA (bW BK477.out); have n4_ := zA (bW BK487.out); have n5_ := zA (Kd.C_drew HR491_1.out); have n6_ := zA (bD HB.out); clear HO_488000; clear HL491_1; clear HO494; clear BK477; clear BK487; clear HR491_1; clear HB; have HO_488000 := n0_; have HL491_1 := n1_; have HO494 := n2_; have BK477 := n3_; have BK487 := n4_; have HR491_1 := n5_; have HB := n6_; clear n0_ n1_ n2_ n3_ n4_ n5_ n6_
              have hcv70 := own_string (P := Try.prog) Try.underlying25 Try.underlying5 Try.underlying9 (Kd.own_of_R HO494.out); have hcv70q := fun (m_ : Nat) => own_string (P := Try.prog) Try.underlying25 Try.underlying5 Try.underlying9 (Kd.own_of_R (Kd.R_drewN HO494.out m_))
              have hcv71 := Kd.C_string (P := Try.prog) (A := A1) (c := c1) Try.underlying25 Try.underlying5 Try.underlying9 (Kd.C_below HR1.out HB.out); have hcv71q := fun (m_ : Nat) => Kd.C_string (P := Try.prog) (A := A1) (c := c1) Try.underlying25 Try.underlying5 Try.underlying9 (Kd.C_drewN (Kd.C_below HR1.out HB.out) m_)
              refine start_ (n := 40) (S := fun w' => (convert 25 9 v493).run Try.prog w' = .ok (.string (strOfNums t492)) w' ∧ (convert 25 9 (.slice A1 l1.length c1)).run Try.prog w' = .ok (.string (strOfNums l1)) w' ∧ w'.cell? ⟨gb477, 0, none⟩ = some (.slice A0_0 l0_0.length c0_0) ∧ w'.cell? ⟨gb477, 1, none⟩ = some (.int .i64 a0_1) ∧ w'.cell? ⟨gb477, 2, none⟩ = some (.int .i64 a0_2)) (ds := []) (bs 40 0) (by kernel_rfl) rfl rfl ⟨hcv70, hcv71, (blk_cell BK477.out 0).trans rfl, (blk_cell BK477.out 1).trans rfl, (blk_cell BK477.out 2).trans rfl⟩ (fun hHeld => ?_); refine with_tabW reelkeeperlaw13_DriveWrites.tab11 reelkeeperlaw13_DriveWrites.bits11 (fun HT_ HW_ => ?_)
              generalize w68.drew = w69 at HO_488000 HL491_1 HO494 BK477 BK487 HR491_1 HB hHeld ⊢
              refine pure_ (i := 0) (N := some 101) (v := ?_) (a' := ?_) (bs 40 1) rfl rfl (any_of HT_.out (by kernel_rfl)) (fun _ _ _ h => h) (Or.inl ⟨by rfl, ?_⟩) ?_ ?_; rotate_left
              ·intro w'
               go_simp
               with_reducible rfl
              rotate_left
              ·simp only [Act.put, sA, sB, sC, i64_w, i32_w]
               rfl
              refine pure_ (i := 1) (N := some 102) (v := ?_) (a' := ?_) (bs 40 3) rfl rfl (any_of HT_.out (by kernel_rfl)) (fun _ _ _ h => h) (Or.inl ⟨by rfl, ?_⟩) ?_ ?_; rotate_left
              ·intro w'
               go_simp
               with_reducible rfl
              rotate_left
              ·simp only [Act.put, sA, sB, sC, i64_w, i32_w]
               rfl
              refine pure_ (i := 2) (N := some 103) (v := ?_) (a' := ?_) (bs 40 7) rfl rfl (any_of HT_.out (by kernel_rfl)) (fun _ _ _ h => h) (Or.inl ⟨by rfl, ?_⟩) ?_ ?_; rotate_left
              ·intro w'
               go_simp
               with_reducible rfl
              rotate_left
              ·simp only [Act.put, sA, sB, sC, i64_w, i32_w]
               rfl
              refine pure_ (i := 3) (N := some 104) (v := ?_) (a' := ?_) (bs 40 15) rfl rfl (any_of HT_.out (by kernel_rfl)) (fun _ _ _ h => h) (Or.inl ⟨by rfl, ?_⟩) ?_ ?_; rotate_left
              ·intro w'
               go_simp
               with_reducible rfl
              rotate_left
              ·simp only [Act.put, sA, sB, sC, i64_w, i32_w]
               rfl
              refine take_ (i := 4) (N := some 105) (v := ?_) (a' := ?_) (bs 40 31) rfl rfl (take_ofW HT_.out HW_.out (by kernel_rfl)) (fun _ _ _ h => h) (Or.inl ⟨by rfl, ?_⟩) hHeld ?_ ?_; rotate_left
              ·rintro w' ⟨sa, sb, s⟩
               go_simp
               with_reducible rfl
              rotate_left
              ·simp only [Act.put, sA, sB, sC, i64_w, i32_w]
               rfl
              refine pure_ (i := 5) (N := some 106) (v := ?_) (a' := ?_) (bs 40 63) rfl rfl (any_of HT_.out (by kernel_rfl)) (fun _ _ _ h => h) (Or.inl ⟨by rfl, ?_⟩) ?_ ?_; rotate_left
              ·intro w'
               go_simp
               with_reducible rfl
              rotate_left
              ·simp only [Act.put, sA, sB, sC, i64_w, i32_w]
               rfl
              refine take_ (i := 6) (N := some 107) (v := ?_) (a' := ?_) (bs 40 127) rfl rfl (take_ofW HT_.out HW_.out (by kernel_rfl)) (fun _ _ _ h => h) (Or.inl ⟨by rfl, ?_⟩) hHeld ?_ ?_; rotate_left
              ·rintro w' ⟨sa, sb, s⟩
               go_simp
               with_reducible rfl
              rotate_left
              ·simp only [Act.put, sA, sB, sC, i64_w, i32_w]
               rfl
              refine pure_ (i := 7) (N := some 108) (v := ?_) (a' := ?_) (bs 40 255) rfl rfl (any_of HT_.out (by kernel_rfl)) (fun _ _ _ h => h) (Or.inl ⟨by rfl, ?_⟩) ?_ ?_; rotate_left
              ·intro w'
               go_simp
               with_reducible rfl
              rotate_left
              ·simp only [Act.put, sA, sB, sC, i64_w, i32_w]
               rfl
              refine pure_ (i := 8) (N := some 109) (v := ?_) (a' := ?_) (bs 40 511) rfl rfl (any_of HT_.out (by kernel_rfl)) (fun _ _ _ h => h) (Or.inl ⟨by rfl, ?_⟩) ?_ ?_; rotate_left
              ·intro w'
               go_simp
               with_reducible rfl
              rotate_left
              ·simp only [Act.put, sA, sB, sC, i64_w, i32_w]
               rfl
              refine pure_ (i := 9) (N := some 110) (v := ?_) (a' := ?_) (bs 40 1023) rfl rfl (any_of HT_.out (by kernel_rfl)) (fun _ _ _ h => h) (Or.inl ⟨by rfl, ?_⟩) ?_ ?_; rotate_left
              ·intro w'
               go_simp
               with_reducible rfl
              rotate_left
              ·simp only [Act.put, sA, sB, sC, i64_w, i32_w]
               rfl
              refine pure_ (i := 10) (N := some 111) (v := ?_) (a' := ?_) (bs 40 2047) rfl rfl (any_of HT_.out (by kernel_rfl)) (fun _ _ _ h => h) (Or.inl ⟨by rfl, ?_⟩) ?_ ?_; rotate_left
              ·intro w'
               go_simp
               with_reducible rfl
              rotate_left
              ·simp only [Act.put, sA, sB, sC, i64_w, i32_w]
               rfl
              refine pure_ (i := 11) (N := some 112) (v := ?_) (a' := ?_) (bs 40 4095) rfl rfl (any_of HT_.out (by kernel_rfl)) (fun _ _ _ h => h) (Or.inl ⟨by rfl, ?_⟩) ?_ ?_; rotate_left
              ·intro w'
               go_simp
               with_reducible rfl
              rotate_left
              ·simp only [Act.put, sA, sB, sC, i64_w, i32_w]
               rfl
              refine pure_ (i := 12) (N := some 113) (v := ?_) (a' := ?_) (bs 40 8191) rfl rfl (any_of HT_.out (by kernel_rfl)) (fun _ _ _ h => h) (Or.inl ⟨by rfl, ?_⟩) ?_ ?_; rotate_left
              ·intro w'
               go_simp
               with_reducible rfl
              rotate_left
              ·simp only [Act.put, sA, sB, sC, i64_w, i32_w]
               rfl
              refine pure_ (i := 13) (N := some 114) (v := ?_) (a' := ?_) (bs 40 16383) rfl rfl (any_of HT_.out (by kernel_rfl)) (fun _ _ _ h => h) (Or.inl ⟨by rfl, ?_⟩) ?_ ?_; rotate_left
              ·intro w'
               go_simp
               with_reducible rfl
              rotate_left
              ·simp only [Act.put, sA, sB, sC, i64_w, i32_w]
               rfl
              refine pure_ (i := 14) (N := some 115) (v := ?_) (a' := ?_) (bs 40 32767) rfl rfl (any_of HT_.out (by kernel_rfl)) (fun _ _ _ h => h) (Or.inl ⟨by rfl, ?_⟩) ?_ ?_; rotate_left
              ·intro w'
               go_simp
               with_reducible rfl
              rotate_left
              ·simp only [Act.put, sA, sB, sC, i64_w, i32_w]
               rfl
              refine take_ (i := 15) (N := some 116) (v := ?_) (a' := ?_) (bs 40 65535) rfl rfl (take_ofW HT_.out HW_.out (by kernel_rfl)) (fun _ _ _ h => h) (Or.inl ⟨by rfl, ?_⟩) hHeld ?_ ?_; rotate_left
              ·rintro w' ⟨sa, sb, s0, s1, s2⟩
               go_simp
               with_reducible rfl
              rotate_left
              ·simp only [Act.put, sA, sB, sC, i64_w, i32_w]
               rfl
              refine pure_ (i := 16) (N := some 117) (v := ?_) (a' := ?_) (bs 40 131071) rfl rfl (any_of HT_.out (by kernel_rfl)) (fun _ _ _ h => h) (Or.inl ⟨by rfl, ?_⟩) ?_ ?_; rotate_left
              ·intro w'
               go_simp
               with_reducible rfl
              rotate_left
              ·simp only [Act.put, sA, sB, sC, i64_w, i32_w]
               rfl
              refine pure_ (i := 17) (N := some 118) (v := ?_) (a' := ?_) (bs 40 262143) rfl rfl (any_of HT_.out (by kernel_rfl)) (fun _ _ _ h => h) (Or.inl ⟨by rfl, ?_⟩) ?_ ?_; rotate_left
              ·intro w'
               go_simp
               with_reducible rfl
              rotate_left
              ·simp only [Act.put, sA, sB, sC, i64_w, i32_w]
               rfl
              refine pure_ (i := 18) (N := some 119) (v := ?_) (a' := ?_) (bs 40 524287) rfl rfl (any_of HT_.out (by kernel_rfl)) (fun _ _ _ h => h) (Or.inl ⟨by rfl, ?_⟩) ?_ ?_; rotate_left
              ·intro w'
               go_simp
               with_reducible rfl
              rotate_left
              ·simp only [Act.put, sA, sB, sC, i64_w, i32_w]
               rfl
              refine pure_ (i := 19) (N := some 120) (v := ?_) (a' := ?_) (bs 40 1048575) rfl rfl (any_of HT_.out (by kernel_rfl)) (fun _ _ _ h => h) (Or.inl ⟨by rfl, ?_⟩) ?_ ?_; rotate_left
              ·intro w'
               go_simp
               with_reducible rfl
              rotate_left
              ·simp only [Act.put, sA, sB, sC, i64_w, i32_w]
               rfl
              refine pure_ (i := 20) (N := some 121) (v := undef) (a' := ?_) (bs 40 2097151) rfl rfl (any_of HT_.out (by kernel_rfl)) (fun _ _ _ h => h) (Or.inr ⟨by rfl, rfl⟩) ?_ ?_; rotate_left
              ·simp only [Act.put, sA, sB, sC, i64_w, i32_w]
               rfl
              refine pure_ (i := 21) (N := some 122) (v := undef) (a' := ?_) (bs 40 4194303) rfl rfl (any_of HT_.out (by kernel_rfl)) (fun _ _ _ h => h) (Or.inr ⟨by rfl, rfl⟩) ?_ ?_; rotate_left
              ·simp only [Act.put, sA, sB, sC, i64_w, i32_w]
               rfl
              refine pure_ (i := 22) (N := some 123) (v := undef) (a' := ?_) (bs 40 8388607) rfl rfl (any_of HT_.out (by kernel_rfl)) (fun _ _ _ h => h) (Or.inr ⟨by rfl, rfl⟩) ?_ ?_; rotate_left
              ·simp only [Act.put, sA, sB, sC, i64_w, i32_w]
               rfl
              refine pure_ (i := 23) (N := some 124) (v := undef) (a' := ?_) (bs 40 16777215) rfl rfl (any_of HT_.out (by kernel_rfl)) (fun _ _ _ h => h) (Or.inr ⟨by rfl, rfl⟩) ?_ ?_; rotate_left
              ·simp only [Act.put, sA, sB, sC, i64_w, i32_w]
               rfl
              refine pure_ (i := 24) (N := some 125) (v := ?_) (a' := ?_) (bs 40 33554431) rfl rfl (any_of HT_.out (by kernel_rfl)) (fun _ _ _ h => h) (Or.inl ⟨by rfl, ?_⟩) ?_ ?_; rotate_left
              ·intro w'
               go_simp
               with_reducible rfl
              rotate_left
              ·simp only [Act.put, sA, sB, sC, i64_w, i32_w]
               rfl
              refine pure_ (i := 25) (N := some 126) (v := ?_) (a' := ?_) (bs 40 67108863) rfl rfl (any_of HT_.out (by kernel_rfl)) (fun _ _ _ h => h) (Or.inl ⟨by rfl, ?_⟩) ?_ ?_; rotate_left
              ·intro w'
               go_simp
               with_reducible rfl
              rotate_left
              ·simp only [Act.put, sA, sB, sC, i64_w, i32_w]
               rfl
              refine pure_ (i := 26) (N := some 127) (v := undef) (a' := ?_) (bs 40 134217727) rfl rfl (any_of HT_.out (by kernel_rfl)) (fun _ _ _ h => h) (Or.inr ⟨by rfl, rfl⟩) ?_ ?_; rotate_left
              ·simp only [Act.put, sA, sB, sC, i64_w, i32_w]
               rfl
              refine pure_ (i := 27) (N := some 128) (v := undef) (a' := ?_) (bs 40 268435455) rfl rfl (any_of HT_.out (by kernel_rfl)) (fun _ _ _ h => h) (Or.inr ⟨by rfl, rfl⟩) ?_ ?_; rotate_left
              ·simp only [Act.put, sA, sB, sC, i64_w, i32_w]
               rfl
              refine pure_ (i := 28) (N := some 129) (v := undef) (a' := ?_) (bs 40 536870911) rfl rfl (any_of HT_.out (by kernel_rfl)) (fun _ _ _ h => h) (Or.inr ⟨by rfl, rfl⟩) ?_ ?_; rotate_left
              ·simp only [Act.put, sA, sB, sC, i64_w, i32_w]
               rfl
              refine pure_ (i := 29) (N := some 130) (v := undef) (a' := ?_) (bs 40 1073741823) rfl rfl (any_of HT_.out (by kernel_rfl)) (fun _ _ _ h => h) (Or.inr ⟨by rfl, rfl⟩) ?_ ?_; rotate_left
              ·simp only [Act.put, sA, sB, sC, i64_w, i32_w]
               rfl
              refine pure_ (i := 30) (N := some 131) (v := undef) (a' := ?_) (bs 40 2147483647) rfl rfl (any_of HT_.out (by kernel_rfl)) (fun _ _ _ h => h) (Or.inr ⟨by rfl, rfl⟩) ?_ ?_; rotate_left
              ·simp only [Act.put, sA, sB, sC, i64_w, i32_w]
               rfl
              refine pure_ (i := 31) (N := some 132) (v := undef) (a' := ?_) (bs 40 4294967295) rfl rfl (any_of HT_.out (by kernel_rfl)) (fun _ _ _ h => h) (Or.inr ⟨by rfl, rfl⟩) ?_ ?_; rotate_left
              ·simp only [Act.put, sA, sB, sC, i64_w, i32_w]
               rfl
              refine pure_ (i := 32) (N := some 133) (v := undef) (a' := ?_) (bs 40 8589934591) rfl rfl (any_of HT_.out (by kernel_rfl)) (fun _ _ _ h => h) (Or.inr ⟨by rfl, rfl⟩) ?_ ?_; rotate_left
              ·simp only [Act.put, sA, sB, sC, i64_w, i32_w]
               rfl
              refine pure_ (i := 33) (N := some 134) (v := undef) (a' := ?_) (bs 40 17179869183) rfl rfl (any_of HT_.out (by kernel_rfl)) (fun _ _ _ h => h) (Or.inr ⟨by rfl, rfl⟩) ?_ ?_; rotate_left
              ·simp only [Act.put, sA, sB, sC, i64_w, i32_w]
               rfl
              refine pure_ (i := 34) (N := some 135) (v := undef) (a' := ?_) (bs 40 34359738367) rfl rfl (any_of HT_.out (by kernel_rfl)) (fun _ _ _ h => h) (Or.inr ⟨by rfl, rfl⟩) ?_ ?_; rotate_left
              ·simp only [Act.put, sA, sB, sC, i64_w, i32_w]
               rfl
              refine pure_ (i := 35) (N := some 136) (v := undef) (a' := ?_) (bs 40 68719476735) rfl rfl (any_of HT_.out (by kernel_rfl)) (fun _ _ _ h => h) (Or.inr ⟨by rfl, rfl⟩) ?_ ?_; rotate_left
              ·simp only [Act.put, sA, sB, sC, i64_w, i32_w]
               rfl
              refine pure_ (i := 36) (N := some 137) (v := undef) (a' := ?_) (bs 40 137438953471) rfl rfl (any_of HT_.out (by kernel_rfl)) (fun _ _ _ h => h) (Or.inr ⟨by rfl, rfl⟩) ?_ ?_; rotate_left
              ·simp only [Act.put, sA, sB, sC, i64_w, i32_w]
               rfl
              refine pure_ (i := 37) (N := some 138) (v := ?_) (a' := ?_) (bs 40 274877906943) rfl rfl (any_of HT_.out (by kernel_rfl)) (fun _ _ _ h => h) (Or.inl ⟨by rfl, ?_⟩) ?_ ?_; rotate_left
              ·intro w'
               go_simp
               with_reducible rfl
              rotate_left
              ·simp only [Act.put, sA, sB, sC, i64_w, i32_w]
               rfl
              refine pure_ (i := 38) (N := some 139) (v := ?_) (a' := ?_) (bs 40 549755813887) rfl rfl (any_of HT_.out (by kernel_rfl)) (fun _ _ _ h => h) (Or.inl ⟨by rfl, ?_⟩) ?_ ?_; rotate_left
              ·intro w'
               go_simp
               with_reducible rfl
              rotate_left
              ·simp only [Act.put, sA, sB, sC, i64_w, i32_w]
               rfl
              refine pure_ (i := 39) (N := some 6) (v := ?_) (a' := ?_) (bs 40 1099511627775) rfl rfl (any_of HT_.out (by kernel_rfl)) (fun _ _ _ h => h) (Or.inl ⟨by rfl, ?_⟩) ?_ ?_; rotate_left
              ·intro w'
               go_simp
               with_reducible rfl
              rotate_left
              ·simp only [Act.put, sA, sB, sC, i64_w, i32_w]
               rfl
              refine done_ (done_of HT_.out (by kernel_rfl)) ?_
              try go_wp2
              go_ret
              exact ⟨by first | rfl | (simp [errW_none, errW_some] <;> rfl) | (simp [*, errW_none, errW_some] <;> rfl), by repeat (first | (with_reducible first | exact HB.out | apply bL | apply bP | apply bD | refine bS ?_ GE477.out | refine bS ?_ GE487.out) | exact HB.out)⟩
             ·as_aux_lemma =>
              rw [if_neg c66] at H
              have c66b0 : decide ((l0_0.length : Int) ≤ a2) = false := decide_eq_false c66; clear c66
              by_cases c73 : a2 = a0_1
              ·as_aux_lemma =>
               rw [if_pos c73] at H
               have c73b0 : (a2 == a0_1) = true := beq_iff_eq.mpr c73; have c73b1 : (a2 != a0_1) = false := bne_eq_false_iff_eq.mpr c73; clear c73; obtain rfl := Option.some.inj H
               try go_wp2
               have n0_ := zA (Kd.V_drew HO_488000.out); have n1_ := zA (bW BK477.out); have n2_ := zA (bW BK487.out); have n3_ := zA (bD HB.out); clear HO_488000; clear BK477; clear BK487; clear HB; have HO_488000 := n0_; have BK477 := n1_; have BK487 := n2_; have HB := n3_; clear n0_ n1_ n2_ n3_; have p491 : 0 ≤ (t484 : Int) := of_decide_eq_true (by assumption); have q491 : t484 < (t481.length : Int) := of_decide_eq_true (by assumption); obtain ⟨ad491, A491_1, c491_1, e491, hx491_0, hx491_1, hx491_2, hl491_1, hi491_1⟩ := at_T41 (Kd.V_reads' HO_488000.out).2.2 t484 p491 q491; cases e491; obtain ⟨ce491, hce491, hMe491, hcc491⟩ := Kd.V_get HO_488000.out z41 t484 p491 (by first | exact q491 | exact of_decide_eq_true (by assumption) | (have e_ := (Kd.V_reads' HO_488000.out).1; omega)); obtain ⟨ua491_1, uc491_1, rfl, ul491_1, ge491_1⟩ := k41_openF hMe491; have hv491_1 := hcc491 1 _ rfl
               rw [add_field _ _ 1 (by omega)] at hv491_1
               replace hv491_1 := Option.some.inj (hv491_1.symm.trans hx491_1)
               injection hv491_1 with hva_ hvn_ hvc_
               rw [hva_] at ge491_1
               rw [hvc_] at ul491_1
               have HL491_1 := zA (show Kd.V (Kd.slice 5 (Kd.int .u8)) 25 _ w.heap.size _ _ ((rd_T41 t481 t484).f1) from Kd.V_mk ul491_1 ge491_1); clear hva_ hvn_ hvc_ ge491_1 ul491_1; clear hcc491 hce491; have HR491_1 := zA hi491_1; have HC491_1 := zA hl491_1; clear hi491_1 hl491_1; replace p491 := eq_true p491; replace q491 := eq_true q491; refine start_ (n := 14) (S := fun w' => w'.cell? ⟨gb487, 0, none⟩ = some (.slice (some ad491) t481.length co24) ∧ w'.cell? ⟨gb487, 1, none⟩ = some (.int .i64 t484) ∧ w'.cell? ⟨gb487, 2, none⟩ = some (.int .i64 t485) ∧ w'.cell? ⟨gb477, 0, none⟩ = some (.slice A0_0 l0_0.length c0_0) ∧ w'.cell? ⟨gb477, 1, none⟩ = some (.int .i64 a0_1) ∧ w'.cell? ⟨gb477, 2, none⟩ = some (.int .i64 a0_2) ∧ w'.cell? (ad491.add ((t484).toNat * 3)) = some (.int .i64 ((rd_T41 t481 t484).f0)) ∧ w'.cell? ⟨(ad491.add ((t484).toNat * 3)).block, (ad491.add ((t484).toNat * 3)).off + 1, none⟩ = some (.slice A491_1 ((rd_T41 t481 t484).f1).length c491_1) ∧ w'.cell? ⟨(ad491.add ((t484).toNat * 3)).block, (ad491.add ((t484).toNat * 3)).off + 2, none⟩ = some (.bool ((rd_T41 t481 t484).f2))) (ds := []) (bs 14 0) (by kernel_rfl) rfl rfl ⟨(blk_cell BK487.out 0).trans rfl, (blk_cell BK487.out 1).trans rfl, (blk_cell BK487.out 2).trans rfl, (blk_cell BK477.out 0).trans rfl, (blk_cell BK477.out 1).trans rfl, (blk_cell BK477.out 2).trans rfl, hx491_0, hx491_1, hx491_2⟩ (fun hHeld => ?_); refine with_tabW reelkeeperlaw13_DriveWrites.tab10 reelkeeperlaw13_DriveWrites.bits10 (fun HT_ HW_ => ?_)
               generalize wc.drew = w74 at HO_488000 BK477 BK487 HB HL491_1 HR491_1 hx491_0 hx491_1 hx491_2 hHeld ⊢
               refine pure_ (i := 0) (N := some 90) (v := ?_) (a' := ?_) (bs 14 1) rfl rfl (any_of HT_.out (by kernel_rfl)) (fun _ _ _ h => h) (Or.inl ⟨by rfl, ?_⟩) ?_ ?_; rotate_left
               ·intro w'
                go_simp
                with_reducible rfl
               rotate_left
               ·simp only [Act.put, sA, sB, sC, i64_w, i32_w]
                rfl
               refine pure_ (i := 2) (N := some 92) (v := ?_) (a' := ?_) (bs 14 5) rfl rfl (any_of HT_.out (by kernel_rfl)) (fun _ _ _ h => h) (Or.inl ⟨by rfl, ?_⟩) ?_ ?_; rotate_left
               ·intro w'
                go_simp
                with_reducible rfl
               rotate_left
               ·simp only [Act.put, sA, sB, sC, i64_w, i32_w]
                rfl
               refine pure_ (i := 6) (N := some 96) (v := ?_) (a' := ?_) (bs 14 69) rfl rfl (any_of HT_.out (by kernel_rfl)) (fun _ _ _ h => h) (Or.inl ⟨by rfl, ?_⟩) ?_ ?_; rotate_left
               ·intro w'
                go_simp
                with_reducible rfl
               rotate_left
               ·simp only [Act.put, sA, sB, sC, i64_w, i32_w]
                rfl
               refine take_ (i := 1) (N := some 91) (v := ?_) (a' := ?_) (bs 14 71) rfl rfl (take_ofW HT_.out HW_.out (by kernel_rfl)) (fun _ _ _ h => h) (Or.inl ⟨by rfl, ?_⟩) hHeld ?_ ?_; rotate_left
               ·rintro w' ⟨s0, s1, s2, s3, s4, s5, s6, s7, s8⟩
                go_simp
                with_reducible rfl
               rotate_left
               ·simp only [Act.put, sA, sB, sC, i64_w, i32_w]
                rfl
               refine take_ (i := 3) (N := some 93) (v := ?_) (a' := ?_) (bs 14 79) rfl rfl (take_ofW HT_.out HW_.out (by kernel_rfl)) (fun _ _ _ h => h) (Or.inl ⟨by rfl, ?_⟩) hHeld ?_ ?_; rotate_left
               ·rintro w' ⟨s0, s1, s2, s3, s4, s5, s6, s7, s8⟩
                go_simp
                with_reducible rfl
               rotate_left
               ·simp only [Act.put, sA, sB, sC, i64_w, i32_w]
                rfl
               refine pure_ (i := 4) (N := some 94) (v := ?_) (a' := ?_) (bs 14 95) rfl rfl (any_of HT_.out (by kernel_rfl)) (fun _ _ _ h => h) (Or.inl ⟨by rfl, ?_⟩) ?_ ?_; rotate_left
               ·intro w'
                go_simp
                with_reducible rfl
               rotate_left
               ·simp only [Act.put, sA, sB, sC, i64_w, i32_w]
                rfl
               refine take_ (i := 5) (N := some 95) (v := ?_) (a' := ?_) (bs 14 127) rfl rfl (take_ofW HT_.out HW_.out (by kernel_rfl)) (fun _ _ _ h => h) (Or.inl ⟨by rfl, ?_⟩) hHeld ?_ ?_; rotate_left
               ·rintro w' ⟨s0, s1, s2, s3, s4, s5, s6, s7, s8⟩
                go_simp
                with_reducible rfl
               rotate_left
               ·simp only [Act.put, sA, sB, sC, i64_w, i32_w]
                rfl
               refine take_ (i := 7) (N := some 97) (v := ?_) (a' := ?_) (bs 14 255) rfl rfl (take_ofW HT_.out HW_.out (by kernel_rfl)) (fun _ _ _ h => h) (Or.inl ⟨by rfl, ?_⟩) hHeld ?_ ?_; rotate_left
               ·rintro w' ⟨s0, s1, s2, s3, s4, s5, s6, s7, s8⟩
                go_simp
                with_reducible rfl
               rotate_left
               ·simp only [Act.put, sA, sB, sC, i64_w, i32_w]
                rfl
               refine one_ (i := 8) (N := some 98) (bs 14 511) rfl rfl (one_of HT_.out (by kernel_rfl)) (by decide) (fun K hK => ?_); refine goes_ Try.func29 (by kernel_rfl) rfl #[.agg #[.int .i64 ((rd_T41 t481 t484).f0), .slice A491_1 ((rd_T41 t481 t484).f1).length c491_1, .bool ((rd_T41 t481 t484).f2)], .int .i64 a0_2] (by rfl) rfl rfl (by (try simp only [List.map_toArray, List.map_cons, List.map_nil]); first | done | rfl | (simp only [List.length_drop, List.length_take]; rfl)) ?_
               with_reducible refine (tape_Read.calls ((rd_T41 t481 t484).f0) _ _ ((rd_T41 t481 t484).f1) ((rd_T41 t481 t484).f2) a0_2 t492 t495 _ ?side1 ?side2 A56.out).mono ?_
               (case side1 => repeat (first | exact (by repeat (first | (with_reducible exact HR491_1.out) | (with_reducible refine Kd.C_alloc ?_ _) | (with_reducible refine Kd.C_drewN ?_ _) | (with_reducible refine Kd.C_drew ?_) | exact HR491_1.out)) | (with_reducible refine Kd.C_alloc ?_ _) | (with_reducible refine Kd.C_drewN ?_ _) | (with_reducible refine Kd.C_drew ?_)))
               (case side2 => exact HC491_1.out)
               rintro e w75 ⟨v493, rfl, ho0, hb⟩
               have HS6_ := (hb.cell (World.block_lt_of_cell? _ _ (hHeld.2.2.2.2.2.2.1))).trans (hHeld.2.2.2.2.2.2.1); have HS7_ := (hb.cell (World.block_lt_of_cell? _ _ (hHeld.2.2.2.2.2.2.2.1))).trans (hHeld.2.2.2.2.2.2.2.1); have HS8_ := (hb.cell (World.block_lt_of_cell? _ _ (hHeld.2.2.2.2.2.2.2.2))).trans (hHeld.2.2.2.2.2.2.2.2); refine ⟨_, rfl, ?_⟩; have n0_ := zA (Kd.V_elder' HO_488000.out (Kd.R_base ho0) hb); have n1_ := zA (Kd.V_elder' HL491_1.out (Kd.R_base ho0) hb); have n2_ := zA (Kd.R_lower ho0 (below_size (by repeat (first | (with_reducible first | exact HB.out | apply bL | apply bP | apply bD | refine bS ?_ GE477.out | refine bS ?_ GE487.out) | exact HB.out)))); have n3_ := zA (bK BK477.out hb); have n4_ := zA (bK BK487.out hb); have n5_ := zA (Kd.C_below (by repeat (first | (with_reducible exact HR491_1.out) | (with_reducible refine Kd.C_alloc ?_ _) | (with_reducible refine Kd.C_drewN ?_ _) | (with_reducible refine Kd.C_drew ?_) | exact HR491_1.out)) hb); have n6_ := zA (below_step (by repeat (first | (with_reducible first | exact HB.out | apply bL | apply bP | apply bD | refine bS ?_ GE477.out | refine bS ?_ GE487.out) | exact HB.out)) hb); clear HO_488000; clear HL491_1; clear BK477; clear BK487; clear HR491_1; clear HB; have HO_488000 := n0_; have HL491_1 := n1_; have HO494 := n2_; have BK477 := n3_; have BK487 := n4_; have HR491_1 := n5_; have HB := n6_; clear n0_ n1_ n2_ n3_ n4_ n5_ n6_
               (try clear hb)
               (try clear hb2)
               (try clear hk)
               (try clear hi)
               (try clear ho0)
               refine hK.out _ _ ⟨(blk_cell BK487.out 0).trans rfl, (blk_cell BK487.out 1).trans rfl, (blk_cell BK487.out 2).trans rfl, (blk_cell BK477.out 0).trans rfl, (blk_cell BK477.out 1).trans rfl, (blk_cell BK477.out 2).trans rfl, HS6_, HS7_, HS8_⟩ (fun hHeld => ?_); clear hK K; refine norm_ (a' := ?_) ?_ ?_; rotate_left
               ·show Act.put _ (some 98) _ = _
                simp only [Act.put, sA, sB, sC, i64_w, i32_w]
                rfl
               refine pure_ (i := 9) (N := some 89) (v := ?_) (a' := ?_) (bs 14 1023) rfl rfl (any_of HT_.out (by kernel_rfl)) (fun _ _ _ h => h) (Or.inl ⟨by rfl, ?_⟩) ?_ ?_; rotate_left
               ·intro w'
                go_simp
                with_reducible rfl
               rotate_left
               ·simp only [Act.put, sA, sB, sC, i64_w, i32_w]
                rfl
               refine pure_ (i := 10) (N := some 99) (v := ?_) (a' := ?_) (bs 14 2047) rfl rfl (any_of HT_.out (by kernel_rfl)) (fun _ _ _ h => h) (Or.inl ⟨by rfl, ?_⟩) ?_ ?_; rotate_left
               ·intro w'
                go_simp
                with_reducible rfl
               rotate_left
               ·simp only [Act.put, sA, sB, sC, i64_w, i32_w]
                rfl
               refine pure_ (i := 11) (N := some 100) (v := ?_) (a' := ?_) (bs 14 4095) rfl rfl (any_of HT_.out (by kernel_rfl)) (fun _ _ _ h => h) (Or.inl ⟨by rfl, ?_⟩) ?_ ?_; rotate_left
               ·intro w'
                go_simp
                with_reducible rfl
               rotate_left
               ·simp only [Act.put, sA, sB, sC, i64_w, i32_w]
                rfl
               refine pure_ (i := 12) (N := some 11) (v := ?_) (a' := ?_) (bs 14 8191) rfl rfl (any_of HT_.out (by kernel_rfl)) (fun _ _ _ h => h) (Or.inl ⟨by rfl, ?_⟩) ?_ ?_; rotate_left
               ·intro w'
                go_simp
                with_reducible rfl
               rotate_left
               ·simp only [Act.put, sA, sB, sC, i64_w, i32_w]
                rfl
               refine pure_ (i := 13) (N := some 12) (v := ?_) (a' := ?_) (bs 14 16383) rfl rfl (any_of HT_.out (by kernel_rfl)) (fun _ _ _ h => h) (Or.inl ⟨by rfl, ?_⟩) ?_ ?_; rotate_left
               ·intro w'
                go_simp
                with_reducible rfl
               rotate_left
               ·simp only [Act.put, sA, sB, sC, i64_w, i32_w]
                rfl
               refine done_ (done_of HT_.out (by kernel_rfl)) ?_
               try go_wp2
               have n0_ := zA (Kd.V_drew HO_488000.out); have n1_ := zA (Kd.V_drew HL491_1.out); have n2_ := zA (Kd.R_drew HO494.out); have n3_ := zA (bW BK477.out); have n4_ := zA (bW BK487.out); have n5_ := zA (Kd.C_drew HR491_1.out); have n6_ := zA (bD HB.out); clear HO_488000; clear HL491_1; clear HO494; clear BK477; clear BK487; clear HR491_1; clear HB; have HO_488000 := n0_; have HL491_1 := n1_; have HO494 := n2_; have BK477 := n3_; have BK487 := n4_; have HR491_1 := n5_; have HB := n6_; clear n0_ n1_ n2_ n3_ n4_ n5_ n6_
               have hcv77 := own_string (P := Try.prog) Try.underlying25 Try.underlying5 Try.underlying9 (Kd.own_of_R HO494.out); have hcv77q := fun (m_ : Nat) => own_string (P := Try.prog) Try.underlying25 Try.underlying5 Try.underlying9 (Kd.own_of_R (Kd.R_drewN HO494.out m_))
               have hcv78 := Kd.C_string (P := Try.prog) (A := A1) (c := c1) Try.underlying25 Try.underlying5 Try.underlying9 (Kd.C_below HR1.out HB.out); have hcv78q := fun (m_ : Nat) => Kd.C_string (P := Try.prog) (A := A1) (c := c1) Try.underlying25 Try.underlying5 Try.underlying9 (Kd.C_drewN (Kd.C_below HR1.out HB.out) m_)
               refine start_ (n := 40) (S := fun w' => (convert 25 9 v493).run Try.prog w' = .ok (.string (strOfNums t492)) w' ∧ (convert 25 9 (.slice A1 l1.length c1)).run Try.prog w' = .ok (.string (strOfNums l1)) w' ∧ w'.cell? ⟨gb477, 0, none⟩ = some (.slice A0_0 l0_0.length c0_0) ∧ w'.cell? ⟨gb477, 1, none⟩ = some (.int .i64 a0_1) ∧ w'.cell? ⟨gb477, 2, none⟩ = some (.int .i64 a0_2)) (ds := []) (bs 40 0) (by kernel_rfl) rfl rfl ⟨hcv77, hcv78, (blk_cell BK477.out 0).trans rfl, (blk_cell BK477.out 1).trans rfl, (blk_cell BK477.out 2).trans rfl⟩ (fun hHeld => ?_); refine with_tabW reelkeeperlaw13_DriveWrites.tab11 reelkeeperlaw13_DriveWrites.bits11 (fun HT_ HW_ => ?_)
               generalize w75.drew = w76 at HO_488000 HL491_1 HO494 BK477 BK487 HR491_1 HB hHeld ⊢
               refine pure_ (i := 0) (N := some 101) (v := ?_) (a' := ?_) (bs 40 1) rfl rfl (any_of HT_.out (by kernel_rfl)) (fun _ _ _ h => h) (Or.inl ⟨by rfl, ?_⟩) ?_ ?_; rotate_left
               ·intro w'
                go_simp
                with_reducible rfl
               rotate_left
               ·simp only [Act.put, sA, sB, sC, i64_w, i32_w]
                rfl
               refine pure_ (i := 1) (N := some 102) (v := ?_) (a' := ?_) (bs 40 3) rfl rfl (any_of HT_.out (by kernel_rfl)) (fun _ _ _ h => h) (Or.inl ⟨by rfl, ?_⟩) ?_ ?_; rotate_left
               ·intro w'
                go_simp
                with_reducible rfl
               rotate_left
               ·simp only [Act.put, sA, sB, sC, i64_w, i32_w]
                rfl
               refine pure_ (i := 2) (N := some 103) (v := ?_) (a' := ?_) (bs 40 7) rfl rfl (any_of HT_.out (by kernel_rfl)) (fun _ _ _ h => h) (Or.inl ⟨by rfl, ?_⟩) ?_ ?_; rotate_left
               ·intro w'
                go_simp
                with_reducible rfl
               rotate_left
               ·simp only [Act.put, sA, sB, sC, i64_w, i32_w]
                rfl
               refine pure_ (i := 3) (N := some 104) (v := ?_) (a' := ?_) (bs 40 15) rfl rfl (any_of HT_.out (by kernel_rfl)) (fun _ _ _ h => h) (Or.inl ⟨by rfl, ?_⟩) ?_ ?_; rotate_left
               ·intro w'
                go_simp
                with_reducible rfl
               rotate_left
               ·simp only [Act.put, sA, sB, sC, i64_w, i32_w]
                rfl
               refine take_ (i := 4) (N := some 105) (v := ?_) (a' := ?_) (bs 40 31) rfl rfl (take_ofW HT_.out HW_.out (by kernel_rfl)) (fun _ _ _ h => h) (Or.inl ⟨by rfl, ?_⟩) hHeld ?_ ?_; rotate_left
               ·rintro w' ⟨sa, sb, s⟩
                go_simp
                with_reducible rfl
               rotate_left
               ·simp only [Act.put, sA, sB, sC, i64_w, i32_w]
                rfl
               refine pure_ (i := 5) (N := some 106) (v := ?_) (a' := ?_) (bs 40 63) rfl rfl (any_of HT_.out (by kernel_rfl)) (fun _ _ _ h => h) (Or.inl ⟨by rfl, ?_⟩) ?_ ?_; rotate_left
               ·intro w'
                go_simp
                with_reducible rfl
               rotate_left
               ·simp only [Act.put, sA, sB, sC, i64_w, i32_w]
                rfl
               refine take_ (i := 6) (N := some 107) (v := ?_) (a' := ?_) (bs 40 127) rfl rfl (take_ofW HT_.out HW_.out (by kernel_rfl)) (fun _ _ _ h => h) (Or.inl ⟨by rfl, ?_⟩) hHeld ?_ ?_; rotate_left
               ·rintro w' ⟨sa, sb, s⟩
                go_simp
                with_reducible rfl
               rotate_left
               ·simp only [Act.put, sA, sB, sC, i64_w, i32_w]
                rfl
               refine pure_ (i := 7) (N := some 108) (v := ?_) (a' := ?_) (bs 40 255) rfl rfl (any_of HT_.out (by kernel_rfl)) (fun _ _ _ h => h) (Or.inl ⟨by rfl, ?_⟩) ?_ ?_; rotate_left
               ·intro w'
                go_simp
                with_reducible rfl
               rotate_left
               ·simp only [Act.put, sA, sB, sC, i64_w, i32_w]
                rfl
               refine pure_ (i := 8) (N := some 109) (v := ?_) (a' := ?_) (bs 40 511) rfl rfl (any_of HT_.out (by kernel_rfl)) (fun _ _ _ h => h) (Or.inl ⟨by rfl, ?_⟩) ?_ ?_; rotate_left
               ·intro w'
                go_simp
                with_reducible rfl
               rotate_left
               ·simp only [Act.put, sA, sB, sC, i64_w, i32_w]
                rfl
               refine pure_ (i := 9) (N := some 110) (v := ?_) (a' := ?_) (bs 40 1023) rfl rfl (any_of HT_.out (by kernel_rfl)) (fun _ _ _ h => h) (Or.inl ⟨by rfl, ?_⟩) ?_ ?_; rotate_left
               ·intro w'
                go_simp
                with_reducible rfl
               rotate_left
               ·simp only [Act.put, sA, sB, sC, i64_w, i32_w]
                rfl
               refine pure_ (i := 10) (N := some 111) (v := ?_) (a' := ?_) (bs 40 2047) rfl rfl (any_of HT_.out (by kernel_rfl)) (fun _ _ _ h => h) (Or.inl ⟨by rfl, ?_⟩) ?_ ?_; rotate_left
               ·intro w'
                go_simp
                with_reducible rfl
               rotate_left
               ·simp only [Act.put, sA, sB, sC, i64_w, i32_w]
                rfl
               refine pure_ (i := 11) (N := some 112) (v := ?_) (a' := ?_) (bs 40 4095) rfl rfl (any_of HT_.out (by kernel_rfl)) (fun _ _ _ h => h) (Or.inl ⟨by rfl, ?_⟩) ?_ ?_; rotate_left
               ·intro w'
                go_simp
                with_reducible rfl
               rotate_left
               ·simp only [Act.put, sA, sB, sC, i64_w, i32_w]
                rfl
               refine pure_ (i := 12) (N := some 113) (v := ?_) (a' := ?_) (bs 40 8191) rfl rfl (any_of HT_.out (by kernel_rfl)) (fun _ _ _ h => h) (Or.inl ⟨by rfl, ?_⟩) ?_ ?_; rotate_left
               ·intro w'
                go_simp
                with_reducible rfl
               rotate_left
               ·simp only [Act.put, sA, sB, sC, i64_w, i32_w]
                rfl
               refine pure_ (i := 13) (N := some 114) (v := ?_) (a' := ?_) (bs 40 16383) rfl rfl (any_of HT_.out (by kernel_rfl)) (fun _ _ _ h => h) (Or.inl ⟨by rfl, ?_⟩) ?_ ?_; rotate_left
               ·intro w'
                go_simp
                with_reducible rfl
               rotate_left
               ·simp only [Act.put, sA, sB, sC, i64_w, i32_w]
                rfl
               refine pure_ (i := 14) (N := some 115) (v := ?_) (a' := ?_) (bs 40 32767) rfl rfl (any_of HT_.out (by kernel_rfl)) (fun _ _ _ h => h) (Or.inl ⟨by rfl, ?_⟩) ?_ ?_; rotate_left
               ·intro w'
                go_simp
                with_reducible rfl
               rotate_left
               ·simp only [Act.put, sA, sB, sC, i64_w, i32_w]
                rfl
               refine take_ (i := 15) (N := some 116) (v := ?_) (a' := ?_) (bs 40 65535) rfl rfl (take_ofW HT_.out HW_.out (by kernel_rfl)) (fun _ _ _ h => h) (Or.inl ⟨by rfl, ?_⟩) hHeld ?_ ?_; rotate_left
               ·rintro w' ⟨sa, sb, s0, s1, s2⟩
                go_simp
                with_reducible rfl
               rotate_left
               ·simp only [Act.put, sA, sB, sC, i64_w, i32_w]
                rfl
               refine pure_ (i := 16) (N := some 117) (v := ?_) (a' := ?_) (bs 40 131071) rfl rfl (any_of HT_.out (by kernel_rfl)) (fun _ _ _ h => h) (Or.inl ⟨by rfl, ?_⟩) ?_ ?_; rotate_left
               ·intro w'
                go_simp
                with_reducible rfl
               rotate_left
               ·simp only [Act.put, sA, sB, sC, i64_w, i32_w]
                rfl
               refine pure_ (i := 17) (N := some 118) (v := ?_) (a' := ?_) (bs 40 262143) rfl rfl (any_of HT_.out (by kernel_rfl)) (fun _ _ _ h => h) (Or.inl ⟨by rfl, ?_⟩) ?_ ?_; rotate_left
               ·intro w'
                go_simp
                with_reducible rfl
               rotate_left
               ·simp only [Act.put, sA, sB, sC, i64_w, i32_w]
                rfl
               refine pure_ (i := 18) (N := some 119) (v := ?_) (a' := ?_) (bs 40 524287) rfl rfl (any_of HT_.out (by kernel_rfl)) (fun _ _ _ h => h) (Or.inl ⟨by rfl, ?_⟩) ?_ ?_; rotate_left
               ·intro w'
                go_simp
                with_reducible rfl
               rotate_left
               ·simp only [Act.put, sA, sB, sC, i64_w, i32_w]
                rfl
               refine pure_ (i := 19) (N := some 120) (v := ?_) (a' := ?_) (bs 40 1048575) rfl rfl (any_of HT_.out (by kernel_rfl)) (fun _ _ _ h => h) (Or.inl ⟨by rfl, ?_⟩) ?_ ?_; rotate_left
               ·intro w'
                go_simp
                with_reducible rfl
               rotate_left
               ·simp only [Act.put, sA, sB, sC, i64_w, i32_w]
                rfl
               refine pure_ (i := 20) (N := some 121) (v := ?_) (a' := ?_) (bs 40 2097151) rfl rfl (any_of HT_.out (by kernel_rfl)) (fun _ _ _ h => h) (Or.inl ⟨by rfl, ?_⟩) ?_ ?_; rotate_left
               ·intro w'
                go_simp
                with_reducible rfl
               rotate_left
               ·simp only [Act.put, sA, sB, sC, i64_w, i32_w]
                rfl
               refine pure_ (i := 21) (N := some 122) (v := ?_) (a' := ?_) (bs 40 4194303) rfl rfl (any_of HT_.out (by kernel_rfl)) (fun _ _ _ h => h) (Or.inl ⟨by rfl, ?_⟩) ?_ ?_; rotate_left
               ·intro w'
                go_simp
                with_reducible rfl
               rotate_left
               ·simp only [Act.put, sA, sB, sC, i64_w, i32_w]
                rfl
               refine take_ (i := 22) (N := some 123) (v := ?_) (a' := ?_) (bs 40 8388607) rfl rfl (take_ofW HT_.out HW_.out (by kernel_rfl)) (fun _ _ _ h => h) (Or.inl ⟨by rfl, ?_⟩) hHeld ?_ ?_; rotate_left
               ·rintro w' ⟨sa, sb, s0, s1, s2⟩
                go_simp
                with_reducible rfl
               rotate_left
               ·simp only [Act.put, sA, sB, sC, i64_w, i32_w]
                rfl
               refine pure_ (i := 23) (N := some 124) (v := ?_) (a' := ?_) (bs 40 16777215) rfl rfl (any_of HT_.out (by kernel_rfl)) (fun _ _ _ h => h) (Or.inl ⟨by rfl, ?_⟩) ?_ ?_; rotate_left
               ·intro w'
                go_simp
                with_reducible rfl
               rotate_left
               ·simp only [Act.put, sA, sB, sC, i64_w, i32_w]
                rfl
               refine pure_ (i := 24) (N := some 125) (v := ?_) (a' := ?_) (bs 40 33554431) rfl rfl (any_of HT_.out (by kernel_rfl)) (fun _ _ _ h => h) (Or.inl ⟨by rfl, ?_⟩) ?_ ?_; rotate_left
               ·intro w'
                go_simp
                with_reducible rfl
               rotate_left
               ·simp only [Act.put, sA, sB, sC, i64_w, i32_w]
                rfl
               refine pure_ (i := 25) (N := some 126) (v := ?_) (a' := ?_) (bs 40 67108863) rfl rfl (any_of HT_.out (by kernel_rfl)) (fun _ _ _ h => h) (Or.inl ⟨by rfl, ?_⟩) ?_ ?_; rotate_left
               ·intro w'
                go_simp
                with_reducible rfl
               rotate_left
               ·simp only [Act.put, sA, sB, sC, i64_w, i32_w]
                rfl
               refine pure_ (i := 26) (N := some 127) (v := undef) (a' := ?_) (bs 40 134217727) rfl rfl (any_of HT_.out (by kernel_rfl)) (fun _ _ _ h => h) (Or.inr ⟨by rfl, rfl⟩) ?_ ?_; rotate_left
               ·simp only [Act.put, sA, sB, sC, i64_w, i32_w]
                rfl
               refine pure_ (i := 27) (N := some 128) (v := undef) (a' := ?_) (bs 40 268435455) rfl rfl (any_of HT_.out (by kernel_rfl)) (fun _ _ _ h => h) (Or.inr ⟨by rfl, rfl⟩) ?_ ?_; rotate_left
               ·simp only [Act.put, sA, sB, sC, i64_w, i32_w]
                rfl
               refine pure_ (i := 28) (N := some 129) (v := undef) (a' := ?_) (bs 40 536870911) rfl rfl (any_of HT_.out (by kernel_rfl)) (fun _ _ _ h => h) (Or.inr ⟨by rfl, rfl⟩) ?_ ?_; rotate_left
               ·simp only [Act.put, sA, sB, sC, i64_w, i32_w]
                rfl
               refine pure_ (i := 29) (N := some 130) (v := undef) (a' := ?_) (bs 40 1073741823) rfl rfl (any_of HT_.out (by kernel_rfl)) (fun _ _ _ h => h) (Or.inr ⟨by rfl, rfl⟩) ?_ ?_; rotate_left
               ·simp only [Act.put, sA, sB, sC, i64_w, i32_w]
                rfl
               refine pure_ (i := 30) (N := some 131) (v := undef) (a' := ?_) (bs 40 2147483647) rfl rfl (any_of HT_.out (by kernel_rfl)) (fun _ _ _ h => h) (Or.inr ⟨by rfl, rfl⟩) ?_ ?_; rotate_left
               ·simp only [Act.put, sA, sB, sC, i64_w, i32_w]
                rfl
               refine pure_ (i := 31) (N := some 132) (v := undef) (a' := ?_) (bs 40 4294967295) rfl rfl (any_of HT_.out (by kernel_rfl)) (fun _ _ _ h => h) (Or.inr ⟨by rfl, rfl⟩) ?_ ?_; rotate_left
               ·simp only [Act.put, sA, sB, sC, i64_w, i32_w]
                rfl
               refine pure_ (i := 32) (N := some 133) (v := undef) (a' := ?_) (bs 40 8589934591) rfl rfl (any_of HT_.out (by kernel_rfl)) (fun _ _ _ h => h) (Or.inr ⟨by rfl, rfl⟩) ?_ ?_; rotate_left
               ·simp only [Act.put, sA, sB, sC, i64_w, i32_w]
                rfl
               refine pure_ (i := 33) (N := some 134) (v := undef) (a' := ?_) (bs 40 17179869183) rfl rfl (any_of HT_.out (by kernel_rfl)) (fun _ _ _ h => h) (Or.inr ⟨by rfl, rfl⟩) ?_ ?_; rotate_left
               ·simp only [Act.put, sA, sB, sC, i64_w, i32_w]
                rfl
               refine pure_ (i := 34) (N := some 135) (v := undef) (a' := ?_) (bs 40 34359738367) rfl rfl (any_of HT_.out (by kernel_rfl)) (fun _ _ _ h => h) (Or.inr ⟨by rfl, rfl⟩) ?_ ?_; rotate_left
               ·simp only [Act.put, sA, sB, sC, i64_w, i32_w]
                rfl
               refine pure_ (i := 35) (N := some 136) (v := undef) (a' := ?_) (bs 40 68719476735) rfl rfl (any_of HT_.out (by kernel_rfl)) (fun _ _ _ h => h) (Or.inr ⟨by rfl, rfl⟩) ?_ ?_; rotate_left
               ·simp only [Act.put, sA, sB, sC, i64_w, i32_w]
                rfl
               refine pure_ (i := 36) (N := some 137) (v := undef) (a' := ?_) (bs 40 137438953471) rfl rfl (any_of HT_.out (by kernel_rfl)) (fun _ _ _ h => h) (Or.inr ⟨by rfl, rfl⟩) ?_ ?_; rotate_left
               ·simp only [Act.put, sA, sB, sC, i64_w, i32_w]
                rfl
               refine pure_ (i := 37) (N := some 138) (v := ?_) (a' := ?_) (bs 40 274877906943) rfl rfl (any_of HT_.out (by kernel_rfl)) (fun _ _ _ h => h) (Or.inl ⟨by rfl, ?_⟩) ?_ ?_; rotate_left
               ·intro w'
                go_simp
                with_reducible rfl
               rotate_left
               ·simp only [Act.put, sA, sB, sC, i64_w, i32_w]
                rfl
               refine pure_ (i := 38) (N := some 139) (v := ?_) (a' := ?_) (bs 40 549755813887) rfl rfl (any_of HT_.out (by kernel_rfl)) (fun _ _ _ h => h) (Or.inl ⟨by rfl, ?_⟩) ?_ ?_; rotate_left
               ·intro w'
                go_simp
                with_reducible rfl
               rotate_left
               ·simp only [Act.put, sA, sB, sC, i64_w, i32_w]
                rfl
               refine pure_ (i := 39) (N := some 6) (v := ?_) (a' := ?_) (bs 40 1099511627775) rfl rfl (any_of HT_.out (by kernel_rfl)) (fun _ _ _ h => h) (Or.inl ⟨by rfl, ?_⟩) ?_ ?_; rotate_left
               ·intro w'
                go_simp
                with_reducible rfl
               rotate_left
               ·simp only [Act.put, sA, sB, sC, i64_w, i32_w]
                rfl
               refine done_ (done_of HT_.out (by kernel_rfl)) ?_
               try go_wp2
               go_ret
               exact ⟨by first | rfl | (simp [errW_none, errW_some] <;> rfl) | (simp [*, errW_none, errW_some] <;> rfl), by repeat (first | (with_reducible first | exact HB.out | apply bL | apply bP | apply bD | refine bS ?_ GE477.out | refine bS ?_ GE487.out) | exact HB.out)⟩
              ·as_aux_lemma =>
               rw [if_neg c73] at H
               have c73b0 : (a2 == a0_1) = false := beq_eq_false_iff_ne.mpr c73; have c73b1 : (a2 != a0_1) = true := bne_iff_ne.mpr c73
               by_cases c80 : 0 ≤ a2
               ·as_aux_lemma =>
                rw [if_pos c80] at H
                have c80b0 : decide (0 ≤ a2) = true := decide_eq_true c80; clear c80
                by_cases c81 : a2 < (t481.length : Int)
                ·as_aux_lemma =>
                 rw [if_pos c81] at H
                 have c81b0 : decide (a2 < (t481.length : Int)) = true := decide_eq_true c81; clear c81
                 by_cases c82 : a2 < (l0_0.length : Int)
                 ·as_aux_lemma =>
                  rw [if_pos c82] at H
                  have c82b0 : decide (a2 < (l0_0.length : Int)) = true := decide_eq_true c82; clear c82; replace H := Option.bind_eq_some_iff.mp H; obtain ⟨t498, A830, H⟩ := H; replace H : (some t498) = some r := H; have A83 := zA A830; clear A830; obtain rfl := Option.some.inj H
                  try go_wp2
                  have n0_ := zA (Kd.V_drew HO_488000.out); have n1_ := zA (bW BK477.out); have n2_ := zA (bW BK487.out); have n3_ := zA (bD HB.out); clear HO_488000; clear BK477; clear BK487; clear HB; have HO_488000 := n0_; have BK477 := n1_; have BK487 := n2_; have HB := n3_; clear n0_ n1_ n2_ n3_; have p491 : 0 ≤ (t484 : Int) := of_decide_eq_true (by assumption); have q491 : t484 < (t481.length : Int) := of_decide_eq_true (by assumption); obtain ⟨ad491, A491_1, c491_1, e491, hx491_0, hx491_1, hx491_2, hl491_1, hi491_1⟩ := at_T41 (Kd.V_reads' HO_488000.out).2.2 t484 p491 q491; cases e491; obtain ⟨ce491, hce491, hMe491, hcc491⟩ := Kd.V_get HO_488000.out z41 t484 p491 (by first | exact q491 | exact of_decide_eq_true (by assumption) | (have e_ := (Kd.V_reads' HO_488000.out).1; omega)); obtain ⟨ua491_1, uc491_1, rfl, ul491_1, ge491_1⟩ := k41_openF hMe491; have hv491_1 := hcc491 1 _ rfl
                  rw [add_field _ _ 1 (by omega)] at hv491_1
                  replace hv491_1 := Option.some.inj (hv491_1.symm.trans hx491_1)
                  injection hv491_1 with hva_ hvn_ hvc_
                  rw [hva_] at ge491_1
                  rw [hvc_] at ul491_1
                  have HL491_1 := zA (show Kd.V (Kd.slice 5 (Kd.int .u8)) 25 _ w.heap.size _ _ ((rd_T41 t481 t484).f1) from Kd.V_mk ul491_1 ge491_1); clear hva_ hvn_ hvc_ ge491_1 ul491_1; clear hcc491 hce491; have HR491_1 := zA hi491_1; have HC491_1 := zA hl491_1; clear hi491_1 hl491_1; replace p491 := eq_true p491; replace q491 := eq_true q491; refine start_ (n := 14) (S := fun w' => w'.cell? ⟨gb487, 0, none⟩ = some (.slice (some ad491) t481.length co24) ∧ w'.cell? ⟨gb487, 1, none⟩ = some (.int .i64 t484) ∧ w'.cell? ⟨gb487, 2, none⟩ = some (.int .i64 t485) ∧ w'.cell? ⟨gb477, 0, none⟩ = some (.slice A0_0 l0_0.length c0_0) ∧ w'.cell? ⟨gb477, 1, none⟩ = some (.int .i64 a0_1) ∧ w'.cell? ⟨gb477, 2, none⟩ = some (.int .i64 a0_2) ∧ w'.cell? (ad491.add ((t484).toNat * 3)) = some (.int .i64 ((rd_T41 t481 t484).f0)) ∧ w'.cell? ⟨(ad491.add ((t484).toNat * 3)).block, (ad491.add ((t484).toNat * 3)).off + 1, none⟩ = some (.slice A491_1 ((rd_T41 t481 t484).f1).length c491_1) ∧ w'.cell? ⟨(ad491.add ((t484).toNat * 3)).block, (ad491.add ((t484).toNat * 3)).off + 2, none⟩ = some (.bool ((rd_T41 t481 t484).f2))) (ds := []) (bs 14 0) (by kernel_rfl) rfl rfl ⟨(blk_cell BK487.out 0).trans rfl, (blk_cell BK487.out 1).trans rfl, (blk_cell BK487.out 2).trans rfl, (blk_cell BK477.out 0).trans rfl, (blk_cell BK477.out 1).trans rfl, (blk_cell BK477.out 2).trans rfl, hx491_0, hx491_1, hx491_2⟩ (fun hHeld => ?_); refine with_tabW reelkeeperlaw13_DriveWrites.tab10 reelkeeperlaw13_DriveWrites.bits10 (fun HT_ HW_ => ?_)
                  generalize wc.drew = w84 at HO_488000 BK477 BK487 HB HL491_1 HR491_1 hx491_0 hx491_1 hx491_2 hHeld ⊢
                  refine pure_ (i := 0) (N := some 90) (v := ?_) (a' := ?_) (bs 14 1) rfl rfl (any_of HT_.out (by kernel_rfl)) (fun _ _ _ h => h) (Or.inl ⟨by rfl, ?_⟩) ?_ ?_; rotate_left
                  ·intro w'
                   go_simp
                   with_reducible rfl
                  rotate_left
                  ·simp only [Act.put, sA, sB, sC, i64_w, i32_w]
                   rfl
                  refine pure_ (i := 2) (N := some 92) (v := ?_) (a' := ?_) (bs 14 5) rfl rfl (any_of HT_.out (by kernel_rfl)) (fun _ _ _ h => h) (Or.inl ⟨by rfl, ?_⟩) ?_ ?_; rotate_left
                  ·intro w'
                   go_simp
                   with_reducible rfl
                  rotate_left
                  ·simp only [Act.put, sA, sB, sC, i64_w, i32_w]
                   rfl
                  refine pure_ (i := 6) (N := some 96) (v := ?_) (a' := ?_) (bs 14 69) rfl rfl (any_of HT_.out (by kernel_rfl)) (fun _ _ _ h => h) (Or.inl ⟨by rfl, ?_⟩) ?_ ?_; rotate_left
                  ·intro w'
                   go_simp
                   with_reducible rfl
                  rotate_left
                  ·simp only [Act.put, sA, sB, sC, i64_w, i32_w]
                   rfl
                  refine take_ (i := 1) (N := some 91) (v := ?_) (a' := ?_) (bs 14 71) rfl rfl (take_ofW HT_.out HW_.out (by kernel_rfl)) (fun _ _ _ h => h) (Or.inl ⟨by rfl, ?_⟩) hHeld ?_ ?_; rotate_left
                  ·rintro w' ⟨s0, s1, s2, s3, s4, s5, s6, s7, s8⟩
                   go_simp
                   with_reducible rfl
                  rotate_left
                  ·simp only [Act.put, sA, sB, sC, i64_w, i32_w]
                   rfl
                  refine take_ (i := 3) (N := some 93) (v := ?_) (a' := ?_) (bs 14 79) rfl rfl (take_ofW HT_.out HW_.out (by kernel_rfl)) (fun _ _ _ h => h) (Or.inl ⟨by rfl, ?_⟩) hHeld ?_ ?_; rotate_left
                  ·rintro w' ⟨s0, s1, s2, s3, s4, s5, s6, s7, s8⟩
                   go_simp
                   with_reducible rfl
                  rotate_left
                  ·simp only [Act.put, sA, sB, sC, i64_w, i32_w]
                   rfl
                  refine pure_ (i := 4) (N := some 94) (v := ?_) (a' := ?_) (bs 14 95) rfl rfl (any_of HT_.out (by kernel_rfl)) (fun _ _ _ h => h) (Or.inl ⟨by rfl, ?_⟩) ?_ ?_; rotate_left
                  ·intro w'
                   go_simp
                   with_reducible rfl
                  rotate_left
                  ·simp only [Act.put, sA, sB, sC, i64_w, i32_w]
                   rfl
                  refine take_ (i := 5) (N := some 95) (v := ?_) (a' := ?_) (bs 14 127) rfl rfl (take_ofW HT_.out HW_.out (by kernel_rfl)) (fun _ _ _ h => h) (Or.inl ⟨by rfl, ?_⟩) hHeld ?_ ?_; rotate_left
                  ·rintro w' ⟨s0, s1, s2, s3, s4, s5, s6, s7, s8⟩
                   go_simp
                   with_reducible rfl
                  rotate_left
                  ·simp only [Act.put, sA, sB, sC, i64_w, i32_w]
                   rfl
                  refine take_ (i := 7) (N := some 97) (v := ?_) (a' := ?_) (bs 14 255) rfl rfl (take_ofW HT_.out HW_.out (by kernel_rfl)) (fun _ _ _ h => h) (Or.inl ⟨by rfl, ?_⟩) hHeld ?_ ?_; rotate_left
                  ·rintro w' ⟨s0, s1, s2, s3, s4, s5, s6, s7, s8⟩
                   go_simp
                   with_reducible rfl
                  rotate_left
                  ·simp only [Act.put, sA, sB, sC, i64_w, i32_w]
                   rfl
                  refine one_ (i := 8) (N := some 98) (bs 14 511) rfl rfl (one_of HT_.out (by kernel_rfl)) (by decide) (fun K hK => ?_); refine goes_ Try.func29 (by kernel_rfl) rfl #[.agg #[.int .i64 ((rd_T41 t481 t484).f0), .slice A491_1 ((rd_T41 t481 t484).f1).length c491_1, .bool ((rd_T41 t481 t484).f2)], .int .i64 a0_2] (by rfl) rfl rfl (by (try simp only [List.map_toArray, List.map_cons, List.map_nil]); first | done | rfl | (simp only [List.length_drop, List.length_take]; rfl)) ?_
                  with_reducible refine (tape_Read.calls ((rd_T41 t481 t484).f0) _ _ ((rd_T41 t481 t484).f1) ((rd_T41 t481 t484).f2) a0_2 t492 t495 _ ?side1 ?side2 A56.out).mono ?_
                  (case side1 => repeat (first | exact (by repeat (first | (with_reducible exact HR491_1.out) | (with_reducible refine Kd.C_alloc ?_ _) | (with_reducible refine Kd.C_drewN ?_ _) | (with_reducible refine Kd.C_drew ?_) | exact HR491_1.out)) | (with_reducible refine Kd.C_alloc ?_ _) | (with_reducible refine Kd.C_drewN ?_ _) | (with_reducible refine Kd.C_drew ?_)))
                  (case side2 => exact HC491_1.out)
                  rintro e w85 ⟨v493, rfl, ho0, hb⟩
                  have HS6_ := (hb.cell (World.block_lt_of_cell? _ _ (hHeld.2.2.2.2.2.2.1))).trans (hHeld.2.2.2.2.2.2.1); have HS7_ := (hb.cell (World.block_lt_of_cell? _ _ (hHeld.2.2.2.2.2.2.2.1))).trans (hHeld.2.2.2.2.2.2.2.1); have HS8_ := (hb.cell (World.block_lt_of_cell? _ _ (hHeld.2.2.2.2.2.2.2.2))).trans (hHeld.2.2.2.2.2.2.2.2); refine ⟨_, rfl, ?_⟩; have n0_ := zA (Kd.V_elder' HO_488000.out (Kd.R_base ho0) hb); have n1_ := zA (Kd.V_elder' HL491_1.out (Kd.R_base ho0) hb); have n2_ := zA (Kd.R_lower ho0 (below_size (by repeat (first | (with_reducible first | exact HB.out | apply bL | apply bP | apply bD | refine bS ?_ GE477.out | refine bS ?_ GE487.out) | exact HB.out)))); have n3_ := zA (bK BK477.out hb); have n4_ := zA (bK BK487.out hb); have n5_ := zA (Kd.C_below (by repeat (first | (with_reducible exact HR491_1.out) | (with_reducible refine Kd.C_alloc ?_ _) | (with_reducible refine Kd.C_drewN ?_ _) | (with_reducible refine Kd.C_drew ?_) | exact HR491_1.out)) hb); have n6_ := zA (below_step (by repeat (first | (with_reducible first | exact HB.out | apply bL | apply bP | apply bD | refine bS ?_ GE477.out | refine bS ?_ GE487.out) | exact HB.out)) hb); clear HO_488000; clear HL491_1; clear BK477; clear BK487; clear HR491_1; clear HB; have HO_488000 := n0_; have HL491_1 := n1_; have HO494 := n2_; have BK477 := n3_; have BK487 := n4_; have HR491_1 := n5_; have HB := n6_; clear n0_ n1_ n2_ n3_ n4_ n5_ n6_
                  (try clear hb)
                  (try clear hb2)
                  (try clear hk)
                  (try clear hi)
                  (try clear ho0)
                  refine hK.out _ _ ⟨(blk_cell BK487.out 0).trans rfl, (blk_cell BK487.out 1).trans rfl, (blk_cell BK487.out 2).trans rfl, (blk_cell BK477.out 0).trans rfl, (blk_cell BK477.out 1).trans rfl, (blk_cell BK477.out 2).trans rfl, HS6_, HS7_, HS8_⟩ (fun hHeld => ?_); clear hK K; refine norm_ (a' := ?_) ?_ ?_; rotate_left
                  ·show Act.put _ (some 98) _ = _
                   simp only [Act.put, sA, sB, sC, i64_w, i32_w]
                   rfl
                  refine pure_ (i := 9) (N := some 89) (v := ?_) (a' := ?_) (bs 14 1023) rfl rfl (any_of HT_.out (by kernel_rfl)) (fun _ _ _ h => h) (Or.inl ⟨by rfl, ?_⟩) ?_ ?_; rotate_left
                  ·intro w'
                   go_simp
                   with_reducible rfl
                  rotate_left
                  ·simp only [Act.put, sA, sB, sC, i64_w, i32_w]
                   rfl
                  refine pure_ (i := 10) (N := some 99) (v := ?_) (a' := ?_) (bs 14 2047) rfl rfl (any_of HT_.out (by kernel_rfl)) (fun _ _ _ h => h) (Or.inl ⟨by rfl, ?_⟩) ?_ ?_; rotate_left
                  ·intro w'
                   go_simp
                   with_reducible rfl
                  rotate_left
                  ·simp only [Act.put, sA, sB, sC, i64_w, i32_w]
                   rfl
                  refine pure_ (i := 11) (N := some 100) (v := ?_) (a' := ?_) (bs 14 4095) rfl rfl (any_of HT_.out (by kernel_rfl)) (fun _ _ _ h => h) (Or.inl ⟨by rfl, ?_⟩) ?_ ?_; rotate_left
                  ·intro w'
                   go_simp
                   with_reducible rfl
                  rotate_left
                  ·simp only [Act.put, sA, sB, sC, i64_w, i32_w]
                   rfl
                  refine pure_ (i := 12) (N := some 11) (v := ?_) (a' := ?_) (bs 14 8191) rfl rfl (any_of HT_.out (by kernel_rfl)) (fun _ _ _ h => h) (Or.inl ⟨by rfl, ?_⟩) ?_ ?_; rotate_left
                  ·intro w'
                   go_simp
                   with_reducible rfl
                  rotate_left
                  ·simp only [Act.put, sA, sB, sC, i64_w, i32_w]
                   rfl
                  refine pure_ (i := 13) (N := some 12) (v := ?_) (a' := ?_) (bs 14 16383) rfl rfl (any_of HT_.out (by kernel_rfl)) (fun _ _ _ h => h) (Or.inl ⟨by rfl, ?_⟩) ?_ ?_; rotate_left
                  ·intro w'
                   go_simp
                   with_reducible rfl
                  rotate_left
                  ·simp only [Act.put, sA, sB, sC, i64_w, i32_w]
                   rfl
                  refine done_ (done_of HT_.out (by kernel_rfl)) ?_
                  try go_wp2
                  have n0_ := zA (Kd.V_drew HO_488000.out); have n1_ := zA (Kd.V_drew HL491_1.out); have n2_ := zA (Kd.R_drew HO494.out); have n3_ := zA (bW BK477.out); have n4_ := zA (bW BK487.out); have n5_ := zA (Kd.C_drew HR491_1.out); have n6_ := zA (bD HB.out); clear HO_488000; clear HL491_1; clear HO494; clear BK477; clear BK487; clear HR491_1; clear HB; have HO_488000 := n0_; have HL491_1 := n1_; have HO494 := n2_; have BK477 := n3_; have BK487 := n4_; have HR491_1 := n5_; have HB := n6_; clear n0_ n1_ n2_ n3_ n4_ n5_ n6_
                  have hcv87 := own_string (P := Try.prog) Try.underlying25 Try.underlying5 Try.underlying9 (Kd.own_of_R HO494.out); have hcv87q := fun (m_ : Nat) => own_string (P := Try.prog) Try.underlying25 Try.underlying5 Try.underlying9 (Kd.own_of_R (Kd.R_drewN HO494.out m_))
                  have hcv88 := Kd.C_string (P := Try.prog) (A := A1) (c := c1) Try.underlying25 Try.underlying5 Try.underlying9 (Kd.C_below HR1.out HB.out); have hcv88q := fun (m_ : Nat) => Kd.C_string (P := Try.prog) (A := A1) (c := c1) Try.underlying25 Try.underlying5 Try.underlying9 (Kd.C_drewN (Kd.C_below HR1.out HB.out) m_)
                  have p496 : 0 ≤ (a2 : Int) := of_decide_eq_true (by assumption); have q496 : a2 < (t481.length : Int) := of_decide_eq_true (by assumption); obtain ⟨ad496, A496_1, c496_1, e496, hx496_0, hx496_1, hx496_2, hl496_1, hi496_1⟩ := at_T41 (Kd.V_reads' HO_488000.out).2.2 a2 p496 q496; obtain rfl : ad491 = ad496 := (by injection e496); obtain ⟨ce496, hce496, hMe496, hcc496⟩ := Kd.V_get HO_488000.out z41 a2 p496 (by first | exact q496 | exact of_decide_eq_true (by assumption) | (have e_ := (Kd.V_reads' HO_488000.out).1; omega)); obtain ⟨ua496_1, uc496_1, rfl, ul496_1, ge496_1⟩ := k41_openF hMe496; have hv496_1 := hcc496 1 _ rfl
                  rw [add_field _ _ 1 (by omega)] at hv496_1
                  replace hv496_1 := Option.some.inj (hv496_1.symm.trans hx496_1)
                  injection hv496_1 with hva_ hvn_ hvc_
                  rw [hva_] at ge496_1
                  rw [hvc_] at ul496_1
                  have HL496_1 := zA (show Kd.V (Kd.slice 5 (Kd.int .u8)) 25 _ w.heap.size _ _ ((rd_T41 t481 a2).f1) from Kd.V_mk ul496_1 ge496_1); clear hva_ hvn_ hvc_ ge496_1 ul496_1; clear hcc496 hce496; have HR496_1 := zA hi496_1; have HC496_1 := zA hl496_1; clear hi496_1 hl496_1; replace p496 := eq_true p496; replace q496 := eq_true q496; have p497 : 0 ≤ (a2 : Int) := of_decide_eq_true (by assumption); have q497 : a2 < (l0_0.length : Int) := of_decide_eq_true (by assumption); obtain ⟨ad497, A497_1, c497_1, e497, hx497_0, hx497_1, hx497_2, hl497_1, hi497_1⟩ := at_T41 HR0_0.out a2 p497 q497; have hw497_2 := hx497_2; have hw497_1 := hx497_1; have hw497_0 := hx497_0; cases e497; replace hx497_0 := (HB.out.cell (World.block_lt_of_cell? w _ hx497_0)).trans hx497_0; replace hx497_1 := (HB.out.cell (World.block_lt_of_cell? w _ hx497_1)).trans hx497_1; replace hx497_2 := (HB.out.cell (World.block_lt_of_cell? w _ hx497_2)).trans hx497_2; have HR497_1 := zA hi497_1; have HC497_1 := zA hl497_1; clear hi497_1 hl497_1; replace p497 := eq_true p497; replace q497 := eq_true q497; refine start_ (n := 40) (S := fun w' => (convert 25 9 v493).run Try.prog w' = .ok (.string (strOfNums t492)) w' ∧ (convert 25 9 (.slice A1 l1.length c1)).run Try.prog w' = .ok (.string (strOfNums l1)) w' ∧ w'.cell? ⟨gb477, 0, none⟩ = some (.slice (some ad497) l0_0.length c0_0) ∧ w'.cell? ⟨gb477, 1, none⟩ = some (.int .i64 a0_1) ∧ w'.cell? ⟨gb477, 2, none⟩ = some (.int .i64 a0_2) ∧ w'.cell? ⟨gb487, 0, none⟩ = some (.slice (some ad491) t481.length co24) ∧ w'.cell? ⟨gb487, 1, none⟩ = some (.int .i64 t484) ∧ w'.cell? ⟨gb487, 2, none⟩ = some (.int .i64 t485) ∧ w'.cell? (ad491.add ((a2).toNat * 3)) = some (.int .i64 ((rd_T41 t481 a2).f0)) ∧ w'.cell? ⟨(ad491.add ((a2).toNat * 3)).block, (ad491.add ((a2).toNat * 3)).off + 1, none⟩ = some (.slice A496_1 ((rd_T41 t481 a2).f1).length c496_1) ∧ w'.cell? ⟨(ad491.add ((a2).toNat * 3)).block, (ad491.add ((a2).toNat * 3)).off + 2, none⟩ = some (.bool ((rd_T41 t481 a2).f2)) ∧ w'.cell? (ad497.add ((a2).toNat * 3)) = some (.int .i64 ((rd_T41 l0_0 a2).f0)) ∧ w'.cell? ⟨(ad497.add ((a2).toNat * 3)).block, (ad497.add ((a2).toNat * 3)).off + 1, none⟩ = some (.slice A497_1 ((rd_T41 l0_0 a2).f1).length c497_1) ∧ w'.cell? ⟨(ad497.add ((a2).toNat * 3)).block, (ad497.add ((a2).toNat * 3)).off + 2, none⟩ = some (.bool ((rd_T41 l0_0 a2).f2))) (ds := []) (bs 40 0) (by kernel_rfl) rfl rfl ⟨hcv87, hcv88, (blk_cell BK477.out 0).trans rfl, (blk_cell BK477.out 1).trans rfl, (blk_cell BK477.out 2).trans rfl, (blk_cell BK487.out 0).trans rfl, (blk_cell BK487.out 1).trans rfl, (blk_cell BK487.out 2).trans rfl, hx496_0, hx496_1, hx496_2, ((HB.out.cell (World.block_lt_of_cell? w _ hw497_0)).trans hw497_0), ((HB.out.cell (World.block_lt_of_cell? w _ hw497_1)).trans hw497_1), ((HB.out.cell (World.block_lt_of_cell? w _ hw497_2)).trans hw497_2)⟩ (fun hHeld => ?_); refine with_tabW reelkeeperlaw13_DriveWrites.tab11 reelkeeperlaw13_DriveWrites.bits11 (fun HT_ HW_ => ?_)
                  generalize w85.drew = w86 at HO_488000 HL491_1 HO494 BK477 BK487 HR491_1 HB HL496_1 HR496_1 HR497_1 hx496_0 hx496_1 hx496_2 hx497_0 hx497_1 hx497_2 hHeld ⊢
                  refine pure_ (i := 0) (N := some 101) (v := ?_) (a' := ?_) (bs 40 1) rfl rfl (any_of HT_.out (by kernel_rfl)) (fun _ _ _ h => h) (Or.inl ⟨by rfl, ?_⟩) ?_ ?_; rotate_left
                  ·intro w'
                   go_simp
                   with_reducible rfl
                  rotate_left
                  ·simp only [Act.put, sA, sB, sC, i64_w, i32_w]
                   rfl
                  refine pure_ (i := 1) (N := some 102) (v := ?_) (a' := ?_) (bs 40 3) rfl rfl (any_of HT_.out (by kernel_rfl)) (fun _ _ _ h => h) (Or.inl ⟨by rfl, ?_⟩) ?_ ?_; rotate_left
                  ·intro w'
                   go_simp
                   with_reducible rfl
                  rotate_left
                  ·simp only [Act.put, sA, sB, sC, i64_w, i32_w]
                   rfl
                  refine pure_ (i := 2) (N := some 103) (v := ?_) (a' := ?_) (bs 40 7) rfl rfl (any_of HT_.out (by kernel_rfl)) (fun _ _ _ h => h) (Or.inl ⟨by rfl, ?_⟩) ?_ ?_; rotate_left
                  ·intro w'
                   go_simp
                   with_reducible rfl
                  rotate_left
                  ·simp only [Act.put, sA, sB, sC, i64_w, i32_w]
                   rfl
                  refine pure_ (i := 3) (N := some 104) (v := ?_) (a' := ?_) (bs 40 15) rfl rfl (any_of HT_.out (by kernel_rfl)) (fun _ _ _ h => h) (Or.inl ⟨by rfl, ?_⟩) ?_ ?_; rotate_left
                  ·intro w'
                   go_simp
                   with_reducible rfl
                  rotate_left
                  ·simp only [Act.put, sA, sB, sC, i64_w, i32_w]
                   rfl
                  refine take_ (i := 4) (N := some 105) (v := ?_) (a' := ?_) (bs 40 31) rfl rfl (take_ofW HT_.out HW_.out (by kernel_rfl)) (fun _ _ _ h => h) (Or.inl ⟨by rfl, ?_⟩) hHeld ?_ ?_; rotate_left
                  ·rintro w' ⟨sa, sb, s⟩
                   go_simp
                   with_reducible rfl
                  rotate_left
                  ·simp only [Act.put, sA, sB, sC, i64_w, i32_w]
                   rfl
                  refine pure_ (i := 5) (N := some 106) (v := ?_) (a' := ?_) (bs 40 63) rfl rfl (any_of HT_.out (by kernel_rfl)) (fun _ _ _ h => h) (Or.inl ⟨by rfl, ?_⟩) ?_ ?_; rotate_left
                  ·intro w'
                   go_simp
                   with_reducible rfl
                  rotate_left
                  ·simp only [Act.put, sA, sB, sC, i64_w, i32_w]
                   rfl
                  refine take_ (i := 6) (N := some 107) (v := ?_) (a' := ?_) (bs 40 127) rfl rfl (take_ofW HT_.out HW_.out (by kernel_rfl)) (fun _ _ _ h => h) (Or.inl ⟨by rfl, ?_⟩) hHeld ?_ ?_; rotate_left
                  ·rintro w' ⟨sa, sb, s⟩
                   go_simp
                   with_reducible rfl
                  rotate_left
                  ·simp only [Act.put, sA, sB, sC, i64_w, i32_w]
                   rfl
                  refine pure_ (i := 7) (N := some 108) (v := ?_) (a' := ?_) (bs 40 255) rfl rfl (any_of HT_.out (by kernel_rfl)) (fun _ _ _ h => h) (Or.inl ⟨by rfl, ?_⟩) ?_ ?_; rotate_left
                  ·intro w'
                   go_simp
                   with_reducible rfl
                  rotate_left
                  ·simp only [Act.put, sA, sB, sC, i64_w, i32_w]
                   rfl
                  refine pure_ (i := 8) (N := some 109) (v := ?_) (a' := ?_) (bs 40 511) rfl rfl (any_of HT_.out (by kernel_rfl)) (fun _ _ _ h => h) (Or.inl ⟨by rfl, ?_⟩) ?_ ?_; rotate_left
                  ·intro w'
                   go_simp
                   with_reducible rfl
                  rotate_left
                  ·simp only [Act.put, sA, sB, sC, i64_w, i32_w]
                   rfl
                  refine pure_ (i := 9) (N := some 110) (v := ?_) (a' := ?_) (bs 40 1023) rfl rfl (any_of HT_.out (by kernel_rfl)) (fun _ _ _ h => h) (Or.inl ⟨by rfl, ?_⟩) ?_ ?_; rotate_left
                  ·intro w'
                   go_simp
                   with_reducible rfl
                  rotate_left
                  ·simp only [Act.put, sA, sB, sC, i64_w, i32_w]
                   rfl
                  refine pure_ (i := 10) (N := some 111) (v := ?_) (a' := ?_) (bs 40 2047) rfl rfl (any_of HT_.out (by kernel_rfl)) (fun _ _ _ h => h) (Or.inl ⟨by rfl, ?_⟩) ?_ ?_; rotate_left
                  ·intro w'
                   go_simp
                   with_reducible rfl
                  rotate_left
                  ·simp only [Act.put, sA, sB, sC, i64_w, i32_w]
                   rfl
                  refine pure_ (i := 11) (N := some 112) (v := ?_) (a' := ?_) (bs 40 4095) rfl rfl (any_of HT_.out (by kernel_rfl)) (fun _ _ _ h => h) (Or.inl ⟨by rfl, ?_⟩) ?_ ?_; rotate_left
                  ·intro w'
                   go_simp
                   with_reducible rfl
                  rotate_left
                  ·simp only [Act.put, sA, sB, sC, i64_w, i32_w]
                   rfl
                  refine pure_ (i := 12) (N := some 113) (v := ?_) (a' := ?_) (bs 40 8191) rfl rfl (any_of HT_.out (by kernel_rfl)) (fun _ _ _ h => h) (Or.inl ⟨by rfl, ?_⟩) ?_ ?_; rotate_left
                  ·intro w'
                   go_simp
                   with_reducible rfl
                  rotate_left
                  ·simp only [Act.put, sA, sB, sC, i64_w, i32_w]
                   rfl
                  refine pure_ (i := 13) (N := some 114) (v := ?_) (a' := ?_) (bs 40 16383) rfl rfl (any_of HT_.out (by kernel_rfl)) (fun _ _ _ h => h) (Or.inl ⟨by rfl, ?_⟩) ?_ ?_; rotate_left
                  ·intro w'
                   go_simp
                   with_reducible rfl
                  rotate_left
                  ·simp only [Act.put, sA, sB, sC, i64_w, i32_w]
                   rfl
                  refine pure_ (i := 14) (N := some 115) (v := ?_) (a' := ?_) (bs 40 32767) rfl rfl (any_of HT_.out (by kernel_rfl)) (fun _ _ _ h => h) (Or.inl ⟨by rfl, ?_⟩) ?_ ?_; rotate_left
                  ·intro w'
                   go_simp
                   with_reducible rfl
                  rotate_left
                  ·simp only [Act.put, sA, sB, sC, i64_w, i32_w]
                   rfl
                  refine take_ (i := 15) (N := some 116) (v := ?_) (a' := ?_) (bs 40 65535) rfl rfl (take_ofW HT_.out HW_.out (by kernel_rfl)) (fun _ _ _ h => h) (Or.inl ⟨by rfl, ?_⟩) hHeld ?_ ?_; rotate_left
                  ·rintro w' ⟨sa, sb, s0, s1, s2, s3, s4, s5, s6, s7, s8, s9, s10, s11⟩
                   go_simp
                   with_reducible rfl
                  rotate_left
                  ·simp only [Act.put, sA, sB, sC, i64_w, i32_w]
                   rfl
                  refine pure_ (i := 16) (N := some 117) (v := ?_) (a' := ?_) (bs 40 131071) rfl rfl (any_of HT_.out (by kernel_rfl)) (fun _ _ _ h => h) (Or.inl ⟨by rfl, ?_⟩) ?_ ?_; rotate_left
                  ·intro w'
                   go_simp
                   with_reducible rfl
                  rotate_left
                  ·simp only [Act.put, sA, sB, sC, i64_w, i32_w]
                   rfl
                  refine pure_ (i := 17) (N := some 118) (v := ?_) (a' := ?_) (bs 40 262143) rfl rfl (any_of HT_.out (by kernel_rfl)) (fun _ _ _ h => h) (Or.inl ⟨by rfl, ?_⟩) ?_ ?_; rotate_left
                  ·intro w'
                   go_simp
                   with_reducible rfl
                  rotate_left
                  ·simp only [Act.put, sA, sB, sC, i64_w, i32_w]
                   rfl
                  refine pure_ (i := 18) (N := some 119) (v := ?_) (a' := ?_) (bs 40 524287) rfl rfl (any_of HT_.out (by kernel_rfl)) (fun _ _ _ h => h) (Or.inl ⟨by rfl, ?_⟩) ?_ ?_; rotate_left
                  ·intro w'
                   go_simp
                   with_reducible rfl
                  rotate_left
                  ·simp only [Act.put, sA, sB, sC, i64_w, i32_w]
                   rfl
                  refine pure_ (i := 19) (N := some 120) (v := ?_) (a' := ?_) (bs 40 1048575) rfl rfl (any_of HT_.out (by kernel_rfl)) (fun _ _ _ h => h) (Or.inl ⟨by rfl, ?_⟩) ?_ ?_; rotate_left
                  ·intro w'
                   go_simp
                   with_reducible rfl
                  rotate_left
                  ·simp only [Act.put, sA, sB, sC, i64_w, i32_w]
                   rfl
                  refine pure_ (i := 20) (N := some 121) (v := ?_) (a' := ?_) (bs 40 2097151) rfl rfl (any_of HT_.out (by kernel_rfl)) (fun _ _ _ h => h) (Or.inl ⟨by rfl, ?_⟩) ?_ ?_; rotate_left
                  ·intro w'
                   go_simp
                   with_reducible rfl
                  rotate_left
                  ·simp only [Act.put, sA, sB, sC, i64_w, i32_w]
                   rfl
                  refine pure_ (i := 21) (N := some 122) (v := ?_) (a' := ?_) (bs 40 4194303) rfl rfl (any_of HT_.out (by kernel_rfl)) (fun _ _ _ h => h) (Or.inl ⟨by rfl, ?_⟩) ?_ ?_; rotate_left
                  ·intro w'
                   go_simp
                   with_reducible rfl
                  rotate_left
                  ·simp only [Act.put, sA, sB, sC, i64_w, i32_w]
                   rfl
                  refine take_ (i := 22) (N := some 123) (v := ?_) (a' := ?_) (bs 40 8388607) rfl rfl (take_ofW HT_.out HW_.out (by kernel_rfl)) (fun _ _ _ h => h) (Or.inl ⟨by rfl, ?_⟩) hHeld ?_ ?_; rotate_left
                  ·rintro w' ⟨sa, sb, s0, s1, s2, s3, s4, s5, s6, s7, s8, s9, s10, s11⟩
                   go_simp
                   with_reducible rfl
                  rotate_left
                  ·simp only [Act.put, sA, sB, sC, i64_w, i32_w]
                   rfl
                  refine pure_ (i := 23) (N := some 124) (v := ?_) (a' := ?_) (bs 40 16777215) rfl rfl (any_of HT_.out (by kernel_rfl)) (fun _ _ _ h => h) (Or.inl ⟨by rfl, ?_⟩) ?_ ?_; rotate_left
                  ·intro w'
                   go_simp
                   with_reducible rfl
                  rotate_left
                  ·simp only [Act.put, sA, sB, sC, i64_w, i32_w]
                   rfl
                  refine pure_ (i := 24) (N := some 125) (v := ?_) (a' := ?_) (bs 40 33554431) rfl rfl (any_of HT_.out (by kernel_rfl)) (fun _ _ _ h => h) (Or.inl ⟨by rfl, ?_⟩) ?_ ?_; rotate_left
                  ·intro w'
                   go_simp
                   with_reducible rfl
                  rotate_left
                  ·simp only [Act.put, sA, sB, sC, i64_w, i32_w]
                   rfl
                  refine pure_ (i := 25) (N := some 126) (v := ?_) (a' := ?_) (bs 40 67108863) rfl rfl (any_of HT_.out (by kernel_rfl)) (fun _ _ _ h => h) (Or.inl ⟨by rfl, ?_⟩) ?_ ?_; rotate_left
                  ·intro w'
                   go_simp
                   with_reducible rfl
                  rotate_left
                  ·simp only [Act.put, sA, sB, sC, i64_w, i32_w]
                   rfl
                  refine pure_ (i := 26) (N := some 127) (v := ?_) (a' := ?_) (bs 40 134217727) rfl rfl (any_of HT_.out (by kernel_rfl)) (fun _ _ _ h => h) (Or.inl ⟨by rfl, ?_⟩) ?_ ?_; rotate_left
                  ·intro w'
                   go_simp
                   with_reducible rfl
                  rotate_left
                  ·simp only [Act.put, sA, sB, sC, i64_w, i32_w]
                   rfl
                  refine pure_ (i := 28) (N := some 129) (v := ?_) (a' := ?_) (bs 40 402653183) rfl rfl (any_of HT_.out (by kernel_rfl)) (fun _ _ _ h => h) (Or.inl ⟨by rfl, ?_⟩) ?_ ?_; rotate_left
                  ·intro w'
                   go_simp
                   with_reducible rfl
                  rotate_left
                  ·simp only [Act.put, sA, sB, sC, i64_w, i32_w]
                   rfl
                  refine pure_ (i := 31) (N := some 132) (v := ?_) (a' := ?_) (bs 40 2550136831) rfl rfl (any_of HT_.out (by kernel_rfl)) (fun _ _ _ h => h) (Or.inl ⟨by rfl, ?_⟩) ?_ ?_; rotate_left
                  ·intro w'
                   go_simp
                   with_reducible rfl
                  rotate_left
                  ·simp only [Act.put, sA, sB, sC, i64_w, i32_w]
                   rfl
                  refine pure_ (i := 33) (N := some 134) (v := ?_) (a' := ?_) (bs 40 11140071423) rfl rfl (any_of HT_.out (by kernel_rfl)) (fun _ _ _ h => h) (Or.inl ⟨by rfl, ?_⟩) ?_ ?_; rotate_left
                  ·intro w'
                   go_simp
                   with_reducible rfl
                  rotate_left
                  ·simp only [Act.put, sA, sB, sC, i64_w, i32_w]
                   rfl
                  refine take_ (i := 27) (N := some 128) (v := ?_) (a' := ?_) (bs 40 11274289151) rfl rfl (take_ofW HT_.out HW_.out (by kernel_rfl)) (fun _ _ _ h => h) (Or.inl ⟨by rfl, ?_⟩) hHeld ?_ ?_; rotate_left
                  ·rintro w' ⟨sa, sb, s0, s1, s2, s3, s4, s5, s6, s7, s8, s9, s10, s11⟩
                   go_simp
                   with_reducible rfl
                  rotate_left
                  ·simp only [Act.put, sA, sB, sC, i64_w, i32_w]
                   rfl
                  refine pure_ (i := 29) (N := some 130) (v := ?_) (a' := ?_) (bs 40 11811160063) rfl rfl (any_of HT_.out (by kernel_rfl)) (fun _ _ _ h => h) (Or.inl ⟨by rfl, ?_⟩) ?_ ?_; rotate_left
                  ·intro w'
                   go_simp
                   with_reducible rfl
                  rotate_left
                  ·simp only [Act.put, sA, sB, sC, i64_w, i32_w]
                   rfl
                  refine take_ (i := 30) (N := some 131) (v := ?_) (a' := ?_) (bs 40 12884901887) rfl rfl (take_ofW HT_.out HW_.out (by kernel_rfl)) (fun _ _ _ h => h) (Or.inl ⟨by rfl, ?_⟩) hHeld ?_ ?_; rotate_left
                  ·rintro w' ⟨sa, sb, s0, s1, s2, s3, s4, s5, s6, s7, s8, s9, s10, s11⟩
                   go_simp
                   with_reducible rfl
                  rotate_left
                  ·simp only [Act.put, sA, sB, sC, i64_w, i32_w]
                   rfl
                  refine take_ (i := 32) (N := some 133) (v := ?_) (a' := ?_) (bs 40 17179869183) rfl rfl (take_ofW HT_.out HW_.out (by kernel_rfl)) (fun _ _ _ h => h) (Or.inl ⟨by rfl, ?_⟩) hHeld ?_ ?_; rotate_left
                  ·rintro w' ⟨sa, sb, s0, s1, s2, s3, s4, s5, s6, s7, s8, s9, s10, s11⟩
                   go_simp
                   with_reducible rfl
                  rotate_left
                  ·simp only [Act.put, sA, sB, sC, i64_w, i32_w]
                   rfl
                  refine pure_ (i := 34) (N := some 135) (v := ?_) (a' := ?_) (bs 40 34359738367) rfl rfl (any_of HT_.out (by kernel_rfl)) (fun _ _ _ h => h) (Or.inl ⟨by rfl, ?_⟩) ?_ ?_; rotate_left
                  ·intro w'
                   go_simp
                   with_reducible rfl
                  rotate_left
                  ·simp only [Act.put, sA, sB, sC, i64_w, i32_w]
                   rfl
                  refine take_ (i := 35) (N := some 136) (v := ?_) (a' := ?_) (bs 40 68719476735) rfl rfl (take_ofW HT_.out HW_.out (by kernel_rfl)) (fun _ _ _ h => h) (Or.inl ⟨by rfl, ?_⟩) hHeld ?_ ?_; rotate_left
                  ·rintro w' ⟨sa, sb, s0, s1, s2, s3, s4, s5, s6, s7, s8, s9, s10, s11⟩
                   go_simp
                   with_reducible rfl
                  rotate_left
                  ·simp only [Act.put, sA, sB, sC, i64_w, i32_w]
                   rfl
                  refine one_ (i := 36) (N := some 137) (bs 40 137438953471) rfl rfl (one_of HT_.out (by kernel_rfl)) (by decide) (fun K hK => ?_); refine goes_ Try.func30 (by kernel_rfl) rfl #[.agg #[.int .i64 ((rd_T41 t481 a2).f0), .slice A496_1 ((rd_T41 t481 a2).f1).length c496_1, .bool ((rd_T41 t481 a2).f2)], .agg #[.int .i64 ((rd_T41 l0_0 a2).f0), .slice A497_1 ((rd_T41 l0_0 a2).f1).length c497_1, .bool ((rd_T41 l0_0 a2).f2)]] (by rfl) rfl rfl (by (try simp only [List.map_toArray, List.map_cons, List.map_nil]); first | done | rfl | (simp only [List.length_drop, List.length_take]; rfl)) ?_
                  with_reducible refine (tape_Same.calls ((rd_T41 t481 a2).f0) _ _ ((rd_T41 t481 a2).f1) ((rd_T41 t481 a2).f2) ((rd_T41 l0_0 a2).f0) _ _ ((rd_T41 l0_0 a2).f1) ((rd_T41 l0_0 a2).f2) t498 _ ?side1 ?side2 ?side3 ?side4 A83.out).mono ?_
                  (case side1 => repeat (first | exact (by repeat (first | (with_reducible exact HR496_1.out) | (with_reducible refine Kd.C_alloc ?_ _) | (with_reducible refine Kd.C_drewN ?_ _) | (with_reducible refine Kd.C_drew ?_) | exact HR496_1.out)) | (with_reducible refine Kd.C_alloc ?_ _) | (with_reducible refine Kd.C_drewN ?_ _) | (with_reducible refine Kd.C_drew ?_)))
                  (case side2 => exact HC496_1.out)
                  (case side3 => repeat (first | exact (Kd.C_below HR497_1.out HB.out) | (with_reducible refine Kd.C_alloc ?_ _) | (with_reducible refine Kd.C_drewN ?_ _) | (with_reducible refine Kd.C_drew ?_)))
                  (case side4 => exact HC497_1.out)
                  rintro e w90 ⟨rfl, hb⟩
                  have HS6_ := (hb.cell (World.block_lt_of_cell? _ _ (hHeld.2.2.2.2.2.2.2.2.1))).trans (hHeld.2.2.2.2.2.2.2.2.1); have HS7_ := (hb.cell (World.block_lt_of_cell? _ _ (hHeld.2.2.2.2.2.2.2.2.2.1))).trans (hHeld.2.2.2.2.2.2.2.2.2.1); have HS8_ := (hb.cell (World.block_lt_of_cell? _ _ (hHeld.2.2.2.2.2.2.2.2.2.2.1))).trans (hHeld.2.2.2.2.2.2.2.2.2.2.1); refine ⟨_, rfl, ?_⟩; have n0_ := zA (Kd.V_below HO_488000.out hb); have n1_ := zA (Kd.V_below HL491_1.out hb); have n2_ := zA (Kd.R_below HO494.out hb); have n3_ := zA (Kd.V_below HL496_1.out hb); have n4_ := zA (bK BK477.out hb); have n5_ := zA (bK BK487.out hb); have n6_ := zA (Kd.C_below (by repeat (first | (with_reducible exact HR496_1.out) | (with_reducible refine Kd.C_alloc ?_ _) | (with_reducible refine Kd.C_drewN ?_ _) | (with_reducible refine Kd.C_drew ?_) | exact HR496_1.out)) hb); have n7_ := zA (below_step (by repeat (first | (with_reducible first | exact HB.out | apply bL | apply bP | apply bD | refine bS ?_ GE477.out | refine bS ?_ GE487.out) | exact HB.out)) hb); clear HO_488000; clear HL491_1; clear HO494; clear HL496_1; clear BK477; clear BK487; clear HR496_1; clear HB; have HO_488000 := n0_; have HL491_1 := n1_; have HO494 := n2_; have HL496_1 := n3_; have BK477 := n4_; have BK487 := n5_; have HR496_1 := n6_; have HB := n7_; clear n0_ n1_ n2_ n3_ n4_ n5_ n6_ n7_
                  (try clear hb)
                  (try clear hb2)
                  (try clear hk)
                  (try clear hi)
                  refine hK.out _ _ ⟨(own_string (P := Try.prog) Try.underlying25 Try.underlying5 Try.underlying9 (Kd.own_of_R HO494.out)), (Kd.C_string (P := Try.prog) (A := A1) (c := c1) Try.underlying25 Try.underlying5 Try.underlying9 (Kd.C_below HR1.out HB.out)), (blk_cell BK477.out 0).trans rfl, (blk_cell BK477.out 1).trans rfl, (blk_cell BK477.out 2).trans rfl, (blk_cell BK487.out 0).trans rfl, (blk_cell BK487.out 1).trans rfl, (blk_cell BK487.out 2).trans rfl, HS6_, HS7_, HS8_, ((HB.out.cell (World.block_lt_of_cell? w _ hw497_0)).trans hw497_0), ((HB.out.cell (World.block_lt_of_cell? w _ hw497_1)).trans hw497_1), ((HB.out.cell (World.block_lt_of_cell? w _ hw497_2)).trans hw497_2)⟩ (fun hHeld => ?_); clear hK K; refine norm_ (a' := ?_) ?_ ?_; rotate_left
                  ·show Act.put _ (some 137) _ = _
                   simp only [Act.put, sA, sB, sC, i64_w, i32_w]
                   rfl
                  refine pure_ (i := 37) (N := some 138) (v := ?_) (a' := ?_) (bs 40 274877906943) rfl rfl (any_of HT_.out (by kernel_rfl)) (fun _ _ _ h => h) (Or.inl ⟨by rfl, ?_⟩) ?_ ?_; rotate_left
                  ·intro w'
                   go_simp
                   with_reducible rfl
                  rotate_left
                  ·simp only [Act.put, sA, sB, sC, i64_w, i32_w]
                   rfl
                  refine pure_ (i := 38) (N := some 139) (v := ?_) (a' := ?_) (bs 40 549755813887) rfl rfl (any_of HT_.out (by kernel_rfl)) (fun _ _ _ h => h) (Or.inl ⟨by rfl, ?_⟩) ?_ ?_; rotate_left
                  ·intro w'
                   go_simp
                   with_reducible rfl
                  rotate_left
                  ·simp only [Act.put, sA, sB, sC, i64_w, i32_w]
                   rfl
                  refine pure_ (i := 39) (N := some 6) (v := ?_) (a' := ?_) (bs 40 1099511627775) rfl rfl (any_of HT_.out (by kernel_rfl)) (fun _ _ _ h => h) (Or.inl ⟨by rfl, ?_⟩) ?_ ?_; rotate_left
                  ·intro w'
                   go_simp
                   with_reducible rfl
                  rotate_left
                  ·simp only [Act.put, sA, sB, sC, i64_w, i32_w]
                   rfl
                  refine done_ (done_of HT_.out (by kernel_rfl)) ?_
                  try go_wp2
                  go_ret
                  exact ⟨by first | rfl | (simp [errW_none, errW_some] <;> rfl) | (simp [*, errW_none, errW_some] <;> rfl), by repeat (first | (with_reducible first | exact HB.out | apply bL | apply bP | apply bD | refine bS ?_ GE477.out | refine bS ?_ GE487.out) | exact HB.out)⟩
                 ·rw [if_neg c82] at H
                  exact absurd H (by simp)
                ·rw [if_neg c81] at H
                 exact absurd H (by simp)
               ·rw [if_neg c80] at H
                exact absurd H (by simp)
           ·rw [if_neg c58] at H
            have c58b0 : ((strOfNums t492).toList == (strOfNums l1).toList) = false := beq_eq_false_iff_ne.mpr c58; have c58b1 : ((strOfNums t492).toList != (strOfNums l1).toList) = true := bne_iff_ne.mpr c58; exact absurd H (by simp)
          ·rw [if_neg c57] at H
           have c57b0 : (t495 == 0) = false := beq_eq_false_iff_ne.mpr c57; have c57b1 : (t495 != 0) = true := bne_iff_ne.mpr c57; exact absurd H (by simp)
         ·rw [if_neg c55] at H
          exact absurd H (by simp)
        ·rw [if_neg c54] at H
         exact absurd H (by simp)
    ·rw [if_neg c19] at H
     have c19b0 : (t486 == 0) = false := beq_eq_false_iff_ne.mpr c19; have c19b1 : (t486 != 0) = true := bne_iff_ne.mpr c19; replace H := Option.bind_eq_some_iff.mp H; obtain ⟨t488, A910, H⟩ := H; replace H : (some t488) = some r := H; have A91 := zA A910; clear A910; obtain rfl := Option.some.inj H; have hcz92_0 : wc.cell? ⟨gb477, 0, none⟩ = some (.slice A0_0 l0_0.length c0_0) := (blk_cell BK477.out 0).trans rfl; have hcz92_1 : wc.cell? ⟨gb477, 1, none⟩ = some (.int .i64 a0_1) := (blk_cell BK477.out 1).trans rfl; have hcz92_2 : wc.cell? ⟨gb477, 2, none⟩ = some (.int .i64 a0_2) := (blk_cell BK477.out 2).trans rfl; have hfz92_0 := blk_frozen BK477.out 0; have hfz92_1 := blk_frozen BK477.out 1; have hfz92_2 := blk_frozen BK477.out 2
     go_wp2_with (first | ((with_reducible refine gate_callee (f := 17) rfl ?_); refine goesL_ (some 36) rfl rfl Try.func17 (by kernel_rfl) rfl #[.agg #[.slice A0_0 l0_0.length c0_0, .int .i64 a0_1, .int .i64 a0_2], .slice A1 l1.length c1] rfl (by (try simp only [List.map_toArray, List.map_cons, List.map_nil]); first | done | rfl | (simp only [List.length_drop, List.length_take]; rfl)) ?_; (with_reducible refine (drive_Write.calls _ _ l0_0 a0_1 a0_2 _ _ l1 t481 t484 t485 t486 _ ?side1 ?side2 ?side3 ?side4 A18.out).mono ?_); (case side1 => repeat (first | exact (Kd.C_below HR0_0.out HB.out) | (with_reducible refine Kd.C_alloc ?_ _) | (with_reducible refine Kd.C_drewN ?_ _) | (with_reducible refine Kd.C_drew ?_))); (case side2 => exact HC0_0.out); (case side3 => repeat (first | exact (Kd.C_below HR1.out HB.out) | (with_reducible refine Kd.C_alloc ?_ _) | (with_reducible refine Kd.C_drewN ?_ _) | (with_reducible refine Kd.C_drew ?_))); (case side4 => exact HC1.out); rintro e w93 ⟨v482, rfl, ho0, hb⟩; refine ⟨_, rfl, ?_⟩; have n0_ := zA (Kd.V_lower (Kd.V_mono (ok' := fun k_ => k_ ≠ gb477) ho0 (fun k_ hk_ => (Kd.freshB BK477.out k_ hk_))) (below_size (by repeat (first | (with_reducible first | exact HB.out | apply bL | apply bP | apply bD | refine bS ?_ GE477.out) | exact HB.out)))); have n1_ := zA (bK BK477.out hb); have n2_ := zA (below_step (by repeat (first | (with_reducible first | exact HB.out | apply bL | apply bP | apply bD | refine bS ?_ GE477.out) | exact HB.out)) hb); clear BK477; clear HB; have HO483 := n0_; have BK477 := n1_; have HB := n2_; clear n0_ n1_ n2_; (try clear hb); (try clear hb2); (try clear hk); (try clear hi); (try clear ho0)) | ((with_reducible refine gate_dst (N := 9) rfl ?_); (try (refine gate_guard (by rfl) ?_; dsimp only)); refine box_event ?hg (N := 9) ?hd (cs := #[.slice none 0 0, .int .i64 0, .int .i64 0]) (t := 24) ?hr ?_; (case hd => rfl); (case hg => rfl); (case hr => first | (go_simp; done) | (go_simp; rfl)); intro gb487 hg w94 hbox hb; have n0_ := zA (Kd.V_below (Kd.V_elderB HO483.out gb487 (Nat.le_of_eq hg.symm)) hb); have n1_ := zA (bK BK477.out hb); have n2_ := zA (below_step (by repeat (first | (with_reducible first | exact HB.out | apply bL | apply bP | apply bD | refine bS ?_ GE477.out) | exact HB.out)) hb); have n3_ := zA (hbox); have n4_ := zA ((by rw [hg]; exact (below_size (by repeat (first | (with_reducible first | exact HB.out | apply bL | apply bP | apply bD | refine bS ?_ GE477.out) | exact HB.out))) : w.heap.size ≤ gb487)); have n5_ := zA ((by rw [hg]; exact (below_size (by repeat (first | (with_reducible first | exact HB.out | apply bL | apply bP | apply bD | refine bS ?_ GE477.out) | exact HB.out))) : w.heap.size ≤ gb487)); have n6_ := zA ((by rw [hg]; exact Nat.ne_of_lt (blk_lt BK477.out) : gb477 ≠ gb487)); have n7_ := zA ((by rw [hg]; exact Nat.ne_of_gt (blk_lt BK477.out) : gb487 ≠ gb477)); clear HO483; clear BK477; clear HB; have HO483 := n0_; have BK477 := n1_; have HB := n2_; have BK487 := n3_; have GW487 := n4_; have GE487 := n5_; have NB477_487 := n6_; have NB487_477 := n7_; clear n0_ n1_ n2_ n3_ n4_ n5_ n6_ n7_; clear hb hbox hg; obtain ⟨Ao95, co95, eo95⟩ := Kd.V_slice HO483.out; subst eo95; have hnb96 := NB487_477.out; have hnc96 := NB477_487.out; have hcz97_0 : w94.cell? ⟨gb487, 0, none⟩ = some (.slice none 0 0) := (blk_cell BK487.out 0).trans rfl; have hcz97_1 : w94.cell? ⟨gb487, 1, none⟩ = some (.int .i64 0) := (blk_cell BK487.out 1).trans rfl; have hcz97_2 : w94.cell? ⟨gb487, 2, none⟩ = some (.int .i64 0) := (blk_cell BK487.out 2).trans rfl; have hfz97_0 := blk_frozen BK487.out 0; have hfz97_1 := blk_frozen BK487.out 1; have hfz97_2 := blk_frozen BK487.out 2; have hcz98_0 : w94.cell? ⟨gb477, 0, none⟩ = some (.slice A0_0 l0_0.length c0_0) := (blk_cell BK477.out 0).trans rfl; have hcz98_1 : w94.cell? ⟨gb477, 1, none⟩ = some (.int .i64 a0_1) := (blk_cell BK477.out 1).trans rfl; have hcz98_2 : w94.cell? ⟨gb477, 2, none⟩ = some (.int .i64 a0_2) := (blk_cell BK477.out 2).trans rfl; have hfz98_0 := blk_frozen BK477.out 0; have hfz98_1 := blk_frozen BK477.out 1; have hfz98_2 := blk_frozen BK477.out 2) | ((with_reducible refine gate_callee (f := 28) rfl ?_); refine goesL_ (some 43) rfl rfl Try.func28 (by kernel_rfl) rfl #[.agg #[.slice Ao95 t481.length co95, .int .i64 t484, .int .i64 t485], .agg #[.slice A0_0 l0_0.length c0_0, .int .i64 a0_1, .int .i64 a0_2]] rfl (by (try simp only [List.map_toArray, List.map_cons, List.map_nil]); first | done | rfl | (simp only [List.length_drop, List.length_take]; rfl)) ?_; (with_reducible refine (drive_Same.calls _ _ t481 t484 t485 _ _ l0_0 a0_1 a0_2 t488 _ ?side1 ?side2 ?side3 ?side4 A91.out).mono ?_); (case side1 => refine (Kd.V_reads' (e := 41) (base := w.heap.size) (ok := fun k_ => (k_ ≠ gb477 ∧ k_ ≠ gb487)) (n := t481.length) (c := co95) ?_).2.2; exact (by exact (Kd.V_mono (Kd.V_far (p := ⟨gb487, 2, none⟩) (Kd.V_far (p := ⟨gb487, 1, none⟩) (Kd.V_far (p := ⟨gb487, 0, none⟩) (Kd.V_mono HO483.out (fun k_ hk => (⟨hk, hk.2⟩ : _ ∧ k_ ≠ gb487))) (fun _ hk => hk.2) (.slice Ao95 t481.length co95)) (fun _ hk => hk.2) (.int .i64 t484)) (fun _ hk => hk.2) (.int .i64 t485)) (fun _ h_ => h_.1)))); (case side2 => exact (Kd.V_reads' HO483.out).2.1); (case side3 => exact Kd.C_below HR0_0.out (by repeat (first | (with_reducible first | exact HB.out | apply bL | apply bP | apply bD | refine bS ?_ GE477.out | refine bS ?_ GE487.out) | exact HB.out))); (case side4 => exact HC0_0.out); rintro e w99 ⟨rfl, hb⟩; refine ⟨_, rfl, ?_⟩; have n0_ := zA (Kd.V_below (by exact (Kd.V_mono (Kd.V_far (p := ⟨gb487, 2, none⟩) (Kd.V_far (p := ⟨gb487, 1, none⟩) (Kd.V_far (p := ⟨gb487, 0, none⟩) (Kd.V_mono HO483.out (fun k_ hk => (⟨hk, hk.2⟩ : _ ∧ k_ ≠ gb487))) (fun _ hk => hk.2) (.slice Ao95 t481.length co95)) (fun _ hk => hk.2) (.int .i64 t484)) (fun _ hk => hk.2) (.int .i64 t485)) (fun _ h_ => h_.1))) hb); have n1_ := zA (bK (g := gb477) (o := .cells #[.slice A0_0 l0_0.length c0_0, .int .i64 a0_1, .int .i64 a0_2] 24 (0, 0)) (by refine blk_far ?_ NB477_487.out _; refine blk_far ?_ NB477_487.out _; refine blk_far ?_ NB477_487.out _; exact BK477.out) hb); have n2_ := zA (bK (g := gb487) (o := .cells #[.slice Ao95 t481.length co95, .int .i64 t484, .int .i64 t485] 24 (0, 0)) (by refine blk_put (cs := #[.slice Ao95 t481.length co95, .int .i64 t484, .int .i64 0]) ?_ 2 _ rfl; refine blk_put (cs := #[.slice Ao95 t481.length co95, .int .i64 0, .int .i64 0]) ?_ 1 _ rfl; refine blk_put (cs := #[.slice none 0 0, .int .i64 0, .int .i64 0]) ?_ 0 _ rfl; exact BK487.out) hb); have n3_ := zA (below_step (by repeat (first | (with_reducible first | exact HB.out | apply bL | apply bP | apply bD | refine bS ?_ GE477.out | refine bS ?_ GE487.out) | exact HB.out)) hb); clear HO483; clear BK477; clear BK487; clear HB; have HO483 := n0_; have BK477 := n1_; have BK487 := n2_; have HB := n3_; clear n0_ n1_ n2_ n3_; (try clear hb); (try clear hb2); (try clear hk); (try clear hi)))
     go_ret
     exact ⟨by first | rfl | (simp [errW_none, errW_some] <;> rfl) | (simp [*, errW_none, errW_some] <;> rfl), by repeat (first | (with_reducible first | exact HB.out | apply bL | apply bP | apply bD | refine bS ?_ GE477.out | refine bS ?_ GE487.out) | exact HB.out)⟩

end Go.Proofs.Ytpbfeegfkiegeaa.M
