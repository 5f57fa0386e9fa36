/- Part of a claim: what some functions of the program compute, each with its contract; no condition of its own. Written by a program of this workplace (gen.py, over the print of the kit) and by hand. -/
import Derived.Test.YtpbfeegfkiegeaaM0
import Derived.Test.YtpbfeegfkiegeaaM9
import Derived.Test.YtpbfeegfkiegeaaM22
namespace Go.Proofs.Ytpbfeegfkiegeaa.M
open Go.RowKit Go.Proofs.YtpbfeegfkiegeaaW.PrintWords Go.Proofs.YtpbfeegfkiegeaaW.PrintLast Go.Proofs.YtpbfeegfkiegeaaW.PrintMore
attribute [local go_sem] max2_int min2_int max_two min_two max_three min_three max_four min_four   -- for this text's walks alone
set_option linter.unusedVariables false
set_option linter.unusedSimpArgs false

mutual
def reelkeeperref13_May.j0 : Nat → Bool → List (S41) → Int → Int → Option (Bool)
  | 0, _, _, _, _ => none
  | k + 1, x26, x244000, x244001, x244002 => if x26 = true then (some false) else (reelkeeperref13_May.l0 k 0 x244000 x244001 x244002)
def reelkeeperref13_May.l0 : Nat → Int → List (S41) → Int → Int → Option (Bool)
  | 0, _, _, _, _ => none
  | k + 1, x3, x244000, x244001, x244002 => if x3 < (x244000.length : Int) then (if 0 ≤ x3 then ((reelkeeperref12_May.f k ((rd_T41 x244000 x3).f0) ((rd_T41 x244000 x3).f1) ((rd_T41 x244000 x3).f2)).bind fun t246 => (if t246 = true then (reelkeeperref13_May.l0 k (wrap64 (x3 + 1)) x244000 x244001 x244002) else (some false))) else (none)) else (if x244001 < 0 then (some (x244002 == 0)) else (if 0 ≤ x244001 then (if x244001 < (x244000.length : Int) then (some (decide (x244002 ≤ (((rd_T41 x244000 x244001).f1).length : Int)))) else (none)) else (none)))
end
def reelkeeperref13_May.f (k : Nat) (l0_0 : List (S41)) (a0_1 : Int) (a0_2 : Int) : Option (Bool) := if (l0_0.length : Int) > 12 then (reelkeeperref13_May.j0 k true l0_0 a0_1 a0_2) else (if a0_1 < (-1) then (reelkeeperref13_May.j0 k true l0_0 a0_1 a0_2) else (if a0_1 ≥ (l0_0.length : Int) then (reelkeeperref13_May.j0 k true l0_0 a0_1 a0_2) else (reelkeeperref13_May.j0 k (decide (a0_2 < 0)) l0_0 a0_1 a0_2)))
theorem reelkeeperref13_May.mono_l : ∀ k, (∀ y0 y1 y2 y3, LeO (reelkeeperref13_May.j0 k y0 y1 y2 y3) (reelkeeperref13_May.j0 (k + 1) y0 y1 y2 y3)) ∧ (∀ y0 y1 y2 y3, LeO (reelkeeperref13_May.l0 k y0 y1 y2 y3) (reelkeeperref13_May.l0 (k + 1) y0 y1 y2 y3))
  | 0 => ⟨fun _ _ _ _ r h => by simp [reelkeeperref13_May.j0] at h, fun _ _ _ _ r h => by simp [reelkeeperref13_May.l0] at h⟩
  | k + 1 => by
    obtain ⟨ih0, ih1⟩ := reelkeeperref13_May.mono_l k
    refine ⟨?_, ?_⟩
    · intro y0 y1 y2 y3
      unfold reelkeeperref13_May.j0
      repeat' first
      | (with_reducible exact ih0 _ _ _ _)
      | (with_reducible exact ih1 _ _ _ _)
      | (with_reducible exact reelkeeperref12_May.mono _ _ _ _)
      | (with_reducible exact LeO.refl _)
      | (with_reducible exact LeO.none _)
      | (with_reducible refine LeO.ite ?_ ?_)
      | (with_reducible refine LeO.bind ?_ (fun _ => ?_))
      | exact ih0 _ _ _ _
      | exact ih1 _ _ _ _
      | exact reelkeeperref12_May.mono _ _ _ _
      | exact LeO.none _
      | refine LeO.ite ?_ ?_
      | refine LeO.bind ?_ (fun _ => ?_)
    · intro y0 y1 y2 y3
      unfold reelkeeperref13_May.l0
      repeat' first
      | (with_reducible exact ih0 _ _ _ _)
      | (with_reducible exact ih1 _ _ _ _)
      | (with_reducible exact reelkeeperref12_May.mono _ _ _ _)
      | (with_reducible exact LeO.refl _)
      | (with_reducible exact LeO.none _)
      | (with_reducible refine LeO.ite ?_ ?_)
      | (with_reducible refine LeO.bind ?_ (fun _ => ?_))
      | exact ih0 _ _ _ _
      | exact ih1 _ _ _ _
      | exact reelkeeperref12_May.mono _ _ _ _
      | exact LeO.none _
      | refine LeO.ite ?_ ?_
      | refine LeO.bind ?_ (fun _ => ?_)
theorem reelkeeperref13_May.mono : ∀ a0 a1 a2 k, LeO (reelkeeperref13_May.f k a0 a1 a2) (reelkeeperref13_May.f (k + 1) a0 a1 a2) := by
  intro a0 a1 a2 k
  obtain ⟨ih0, ih1⟩ := reelkeeperref13_May.mono_l k
  unfold reelkeeperref13_May.f
  repeat' first
      | (with_reducible exact ih0 _ _ _ _)
      | (with_reducible exact ih1 _ _ _ _)
      | (with_reducible exact reelkeeperref12_May.mono _ _ _ _)
      | (with_reducible exact LeO.refl _)
      | (with_reducible exact LeO.none _)
      | (with_reducible refine LeO.ite ?_ ?_)
      | (with_reducible refine LeO.bind ?_ (fun _ => ?_))
      | exact ih0 _ _ _ _
      | exact ih1 _ _ _ _
      | exact reelkeeperref12_May.mono _ _ _ _
      | exact LeO.none _
      | refine LeO.ite ?_ ?_
      | refine LeO.bind ?_ (fun _ => ?_)
set_option maxHeartbeats 8000000 in
set_option maxRecDepth 100000 in
theorem reelkeeperref13_May.calls (k : Nat) (A0_0 : Option Addr) (c0_0 : Nat) (l0_0 : List (S41)) (a0_1 : Int) (a0_2 : Int) (r : Bool) (w : World) (hr0_0 : Kd.C k41 w A0_0 l0_0.length l0_0) (hc0_0 : l0_0.length ≤ c0_0) (h : reelkeeperref13_May.f k l0_0 a0_1 a0_2 = some r) :
  Calls Try.prog 26 #[.agg #[.slice A0_0 l0_0.length c0_0, .int .i64 a0_1, .int .i64 a0_2]] w fun e w' => e = .returned (.bool r) ∧ Below w.heap.size w w' := by
 have hu24 := Try.underlying24; have hu41 := Try.underlying41; have HR0_0 := zA hr0_0; have HC0_0 := zA hc0_0; clear hr0_0 hc0_0; have HB := zA (Below.refl w.heap.size w); have H : (if (l0_0.length : Int) > 12 then (reelkeeperref13_May.j0 k true l0_0 a0_1 a0_2) else (if a0_1 < (-1) then (reelkeeperref13_May.j0 k true l0_0 a0_1 a0_2) else (if a0_1 ≥ (l0_0.length : Int) then (reelkeeperref13_May.j0 k true l0_0 a0_1 a0_2) else (reelkeeperref13_May.j0 k (decide (a0_2 < 0)) l0_0 a0_1 a0_2)))) = some r := h; clear h; have HC2 := zA H; clear H
 go_enter Try.func26, Try.ntmps26
 go_upto_region 1 with (first | ((with_reducible refine gate_dst (N := 1) rfl ?_); (try (refine gate_guard (by rfl) ?_; dsimp only)); refine box_event ?hg (N := 1) ?hd (cs := #[.slice A0_0 l0_0.length c0_0, .int .i64 a0_1, .int .i64 a0_2]) (t := 24) ?hr ?_; (case hd => rfl); (case hg => rfl); (case hr => first | (go_simp; done) | (go_simp; rfl)); intro gb243 hg w3 hbox hb; have BK243 := zA (hbox); have GE243 := zA (gW HB.out hg); replace HB := zA (below_step HB.out hb); clear hb hbox hg))
 repeat (go_quiet (first | ((with_reducible refine gate_dst (N := 1) rfl ?_); (try (refine gate_guard (by rfl) ?_; dsimp only)); refine box_event ?hg (N := 1) ?hd (cs := #[.slice A0_0 l0_0.length c0_0, .int .i64 a0_1, .int .i64 a0_2]) (t := 24) ?hr ?_; (case hd => rfl); (case hg => rfl); (case hr => first | (go_simp; done) | (go_simp; rfl)); intro gb243 hg w3 hbox hb; have BK243 := zA (hbox); have GE243 := zA (gW HB.out hg); replace HB := zA (below_step HB.out hb); clear hb hbox hg)); go_upto_region 1 with (first | ((with_reducible refine gate_dst (N := 1) rfl ?_); (try (refine gate_guard (by rfl) ?_; dsimp only)); refine box_event ?hg (N := 1) ?hd (cs := #[.slice A0_0 l0_0.length c0_0, .int .i64 a0_1, .int .i64 a0_2]) (t := 24) ?hr ?_; (case hd => rfl); (case hg => rfl); (case hr => first | (go_simp; done) | (go_simp; rfl)); intro gb243 hg w3 hbox hb; have BK243 := zA (hbox); have GE243 := zA (gW HB.out hg); replace HB := zA (below_step HB.out hb); clear hb hbox hg)))
 (try simp only [Act.put, sA, sB, sC])
 go_cut [26] (fun v26 wc => ∃ (kq : Nat) (x26_1 : Bool), v26 = .bool x26_1 ∧ Aside0 (reelkeeperref13_May.j0 kq x26_1 l0_0 a0_1 a0_2 = some r) ∧ Aside0 (kq ≤ k) ∧ Aside0 (wc.heap[gb243]? = some (.cells #[(.slice A0_0 l0_0.length c0_0), .int .i64 a0_1, .int .i64 a0_2] 24 (0, 0))) ∧ Aside0 (Below w.heap.size w wc))
 case first =>
  have H := HC2.out; clear HC2
  by_cases c4 : (l0_0.length : Int) > 12
  ·rw [if_pos c4] at H
   have c4b0 : decide (12 < (l0_0.length : Int)) = true := decide_eq_true c4; have c4b1 : decide (12 < l0_0.length) = true := decide_eq_true (by omega); clear c4
   (first | rw [c4b0] | (simp only [i64_w, i32_w]; rw [c4b0]) | skip)
   have H' := zA H; clear H; obtain ⟨hcz5_0, hcz5_1, hcz5_2, hfz5_0, hfz5_1, hfz5_2⟩ := b6 BK243.out
   go_wp2
   repeat (go_quiet (fail); try go_wp2)
   go_meet
   case rel => exact ⟨_, (true), (by first | rfl | (simp; done) | (simp [*]; done)), H', ⟨by first | omega | exact Nat.le_refl _⟩, ⟨by exact BK243.out⟩, ⟨by repeat (first | (with_reducible first | exact HB.out | apply bL | apply bP | apply bD | refine bS ?_ GE243.out) | exact HB.out)⟩⟩
  ·rw [if_neg c4] at H
   have c4b0 : decide (12 < (l0_0.length : Int)) = false := decide_eq_false c4; have c4b1 : decide (12 < l0_0.length) = false := decide_eq_false (by omega); clear c4
   (first | rw [c4b0] | (simp only [i64_w, i32_w]; rw [c4b0]) | skip)
   by_cases c6 : a0_1 < (-1)
   ·rw [if_pos c6] at H
    have c6b0 : decide (a0_1 < (-1)) = true := decide_eq_true c6; clear c6; have H' := zA H; clear H; obtain ⟨hcz7_0, hcz7_1, hcz7_2, hfz7_0, hfz7_1, hfz7_2⟩ := b6 BK243.out
    go_wp2
    repeat (go_quiet (fail); try go_wp2)
    go_meet
    case rel => exact ⟨_, (true), (by first | rfl | (simp; done) | (simp [*]; done)), H', ⟨by first | omega | exact Nat.le_refl _⟩, ⟨by exact BK243.out⟩, ⟨by repeat (first | (with_reducible first | exact HB.out | apply bL | apply bP | apply bD | refine bS ?_ GE243.out) | exact HB.out)⟩⟩
   ·rw [if_neg c6] at H
    have c6b0 : decide (a0_1 < (-1)) = false := decide_eq_false c6; clear c6
    by_cases c8 : a0_1 ≥ (l0_0.length : Int)
    ·rw [if_pos c8] at H
     have c8b0 : decide ((l0_0.length : Int) ≤ a0_1) = true := decide_eq_true c8; clear c8; have H' := zA H; clear H; obtain ⟨hcz9_0, hcz9_1, hcz9_2, hfz9_0, hfz9_1, hfz9_2⟩ := b6 BK243.out
     go_wp2
     repeat (go_quiet (fail); try go_wp2)
     go_meet
     case rel => exact ⟨_, (true), (by first | rfl | (simp; done) | (simp [*]; done)), H', ⟨by first | omega | exact Nat.le_refl _⟩, ⟨by exact BK243.out⟩, ⟨by repeat (first | (with_reducible first | exact HB.out | apply bL | apply bP | apply bD | refine bS ?_ GE243.out) | exact HB.out)⟩⟩
    ·rw [if_neg c8] at H
     have c8b0 : decide ((l0_0.length : Int) ≤ a0_1) = false := decide_eq_false c8; clear c8; have H' := zA H; clear H; obtain ⟨hcz10_0, hcz10_1, hcz10_2, hfz10_0, hfz10_1, hfz10_2⟩ := b6 BK243.out
     go_wp2
     repeat (go_quiet (fail); try go_wp2)
     go_meet
     case rel => exact ⟨_, (decide (a0_2 < 0)), (by first | rfl | (simp; done) | (simp [*]; done)), H', ⟨by first | omega | exact Nat.le_refl _⟩, ⟨by exact BK243.out⟩, ⟨by repeat (first | (with_reducible first | exact HB.out | apply bL | apply bP | apply bD | refine bS ?_ GE243.out) | exact HB.out)⟩⟩
 case rest =>
  clear HC2
  try clear c2
  try clear p2
  try clear c4
  try clear c4b0
  try clear c4b1
  try clear c6
  try clear c6b0
  try clear c8
  try clear c8b0
  try clear hcz10_0
  try clear hcz10_1
  try clear hcz10_2
  try clear hcz5_0
  try clear hcz5_1
  try clear hcz5_2
  try clear hcz7_0
  try clear hcz7_1
  try clear hcz7_2
  try clear hcz9_0
  try clear hcz9_1
  try clear hcz9_2
  try clear hfz10_0
  try clear hfz10_1
  try clear hfz10_2
  try clear hfz5_0
  try clear hfz5_1
  try clear hfz5_2
  try clear hfz7_0
  try clear hfz7_1
  try clear hfz7_2
  try clear hfz9_0
  try clear hfz9_1
  try clear hfz9_2
  obtain ⟨kq, x26_1, rfl, HA, HJ1, BK243, HB⟩ := hcut
  cases kq with
  | zero => exact absurd HA.out (by simp [reelkeeperref13_May.j0])
  | succ kj1 =>
   have H := HA.out; clear HA
   simp only [reelkeeperref13_May.j0] at H
   by_cases c11 : x26_1 = true
   ·subst c11
    have H1 : (some false) = some r := by rw [if_pos rfl] at H; exact H
    clear H; have H := H1; clear H1; obtain rfl := Option.some.inj H
    go_wp2
    repeat (go_quiet (fail); try go_wp2)
    go_ret
    exact ⟨by first | rfl | (simp [errW_none, errW_some] <;> rfl) | (simp [*, errW_none, errW_some] <;> rfl), by repeat (first | (with_reducible first | exact HB.out | apply bL | apply bP | apply bD | refine bS ?_ GE243.out) | exact HB.out)⟩
   ·replace c11 := Bool.eq_false_iff.mpr c11
    subst c11
    have H1 : (reelkeeperref13_May.l0 kj1 0 l0_0 a0_1 a0_2) = some r := by rw [if_neg (show ¬ (false = true) by decide)] at H; exact H
    clear H; have H := H1; clear H1; have H' := zA H; clear H
    go_wp2
    repeat (go_quiet (fail); try go_wp2)
    go_loopg [3] kj1 (fun kq v3 w' => ∃ (x3_2 : Int), v3 = .int .i64 x3_2 ∧ Aside0 (reelkeeperref13_May.l0 kq x3_2 l0_0 a0_1 a0_2 = some r) ∧ Aside0 (kq ≤ kj1) ∧ Aside0 (w'.heap[gb243]? = some (.cells #[(.slice A0_0 l0_0.length c0_0), .int .i64 a0_1, .int .i64 a0_2] 24 (0, 0))) ∧ Aside0 (Below w.heap.size w w'))
    case atStart => exact ⟨(0), (by first | rfl | (simp; done) | (simp [*]; done)), H', ⟨Nat.le_refl _⟩, ⟨by exact BK243.out⟩, ⟨by repeat (first | (with_reducible first | exact HB.out | apply bL | apply bP | apply bD | refine bS ?_ GE243.out) | exact HB.out)⟩⟩
    case round =>
     clear H'
     try clear c1
     try clear c2
     try clear p2
     try clear c4
     try clear c4b0
     try clear c4b1
     try clear c6
     try clear c6b0
     try clear c8
     try clear c8b0
     try clear c11
     try clear hcz10_0
     try clear hcz10_1
     try clear hcz10_2
     try clear hcz5_0
     try clear hcz5_1
     try clear hcz5_2
     try clear hcz7_0
     try clear hcz7_1
     try clear hcz7_2
     try clear hcz9_0
     try clear hcz9_1
     try clear hcz9_2
     try clear hfz10_0
     try clear hfz10_1
     try clear hfz10_2
     try clear hfz5_0
     try clear hfz5_1
     try clear hfz5_2
     try clear hfz7_0
     try clear hfz7_1
     try clear hfz7_2
     try clear hfz9_0
     try clear hfz9_1
     try clear hfz9_2
     try clear p2
     obtain ⟨x3_2, rfl, HA, HK2, BK243, HB⟩ := hrel
     cases gk with
     | zero => exact absurd HA.out (by simp [reelkeeperref13_May.l0])
     | succ k2 =>
      have H := HA.out; clear HA
      simp only [reelkeeperref13_May.l0] at H
      by_cases c12 : x3_2 < (l0_0.length : Int)
      ·rw [if_pos c12] at H
       have c12b0 : decide (x3_2 < (l0_0.length : Int)) = true := decide_eq_true c12; clear c12
       by_cases c13 : 0 ≤ x3_2
       ·rw [if_pos c13] at H
        have c13b0 : decide (0 ≤ x3_2) = true := decide_eq_true c13; clear c13; replace H := Option.bind_eq_some_iff.mp H; obtain ⟨t246, A140, H⟩ := H; replace H : (if t246 = true then (reelkeeperref13_May.l0 k2 (wrap64 (x3_2 + 1)) l0_0 a0_1 a0_2) else (some false)) = some r := H; have A14 := zA A140; clear A140
        by_cases c15 : t246 = true
        ·subst c15
         have H1 : (reelkeeperref13_May.l0 k2 (wrap64 (x3_2 + 1)) l0_0 a0_1 a0_2) = some r := by rw [if_pos rfl] at H; exact H
         clear H; have H := H1; clear H1; have H' := zA H; clear H; obtain ⟨hcz16_0, hcz16_1, hcz16_2, hfz16_0, hfz16_1, hfz16_2⟩ := b6 BK243.out; have p245 : 0 ≤ (x3_2 : Int) := of_decide_eq_true (by assumption); have q245 : x3_2 < (l0_0.length : Int) := of_decide_eq_true (by assumption); obtain ⟨ad245, A245_1, c245_1, e245, hx245_0, hx245_1, hx245_2, hl245_1, hi245_1⟩ := at_T41 HR0_0.out x3_2 p245 q245; cases e245; replace hx245_0 := (HB.out.cell (World.block_lt_of_cell? w _ hx245_0)).trans hx245_0; replace hx245_1 := (HB.out.cell (World.block_lt_of_cell? w _ hx245_1)).trans hx245_1; replace hx245_2 := (HB.out.cell (World.block_lt_of_cell? w _ hx245_2)).trans hx245_2; have HR245_1 := zA hi245_1; have HC245_1 := zA hl245_1; clear hi245_1 hl245_1; replace p245 := eq_true p245; replace q245 := eq_true q245
         go_wp2_with (first | (go_at_call 50; (with_reducible refine (reelkeeperref12_May.calls k2 ((rd_T41 l0_0 x3_2).f0) _ _ ((rd_T41 l0_0 x3_2).f1) ((rd_T41 l0_0 x3_2).f2) true _ ?side1 ?side2 A14.out).mono ?_); (case side1 => repeat (first | exact (Kd.C_below HR245_1.out HB.out) | (with_reducible refine Kd.C_alloc ?_ _) | (with_reducible refine Kd.C_drewN ?_ _) | (with_reducible refine Kd.C_drew ?_))); (case side2 => exact HC245_1.out); rintro e w17 ⟨rfl, hb⟩; replace BK243 := zA (bK BK243.out hb); replace HB := zA (below_step HB.out hb); (try clear hb); (try clear hb2); (try clear hk); (try clear hi)))
         repeat (go_quiet (first | (go_at_call 50; (with_reducible refine (reelkeeperref12_May.calls k2 ((rd_T41 l0_0 x3_2).f0) _ _ ((rd_T41 l0_0 x3_2).f1) ((rd_T41 l0_0 x3_2).f2) true _ ?side1 ?side2 A14.out).mono ?_); (case side1 => repeat (first | exact (Kd.C_below HR245_1.out HB.out) | (with_reducible refine Kd.C_alloc ?_ _) | (with_reducible refine Kd.C_drewN ?_ _) | (with_reducible refine Kd.C_drew ?_))); (case side2 => exact HC245_1.out); rintro e w17 ⟨rfl, hb⟩; replace BK243 := zA (bK BK243.out hb); replace HB := zA (below_step HB.out hb); (try clear hb); (try clear hb2); (try clear hk); (try clear hi))); try go_wp2_with (first | (go_at_call 50; (with_reducible refine (reelkeeperref12_May.calls k2 ((rd_T41 l0_0 x3_2).f0) _ _ ((rd_T41 l0_0 x3_2).f1) ((rd_T41 l0_0 x3_2).f2) true _ ?side1 ?side2 A14.out).mono ?_); (case side1 => repeat (first | exact (Kd.C_below HR245_1.out HB.out) | (with_reducible refine Kd.C_alloc ?_ _) | (with_reducible refine Kd.C_drewN ?_ _) | (with_reducible refine Kd.C_drew ?_))); (case side2 => exact HC245_1.out); rintro e w17 ⟨rfl, hb⟩; replace BK243 := zA (bK BK243.out hb); replace HB := zA (below_step HB.out hb); (try clear hb); (try clear hb2); (try clear hk); (try clear hi))))
         go_roundg k2
         case measure => have := HJ1.out; have := HK2.out; omega
         case rel => exact ⟨(wrap64 (x3_2 + 1)), (by first | rfl | (simp; done) | (simp [*]; done)), H', ⟨by have := HJ1.out; have := HK2.out; omega⟩, ⟨by exact BK243.out⟩, ⟨by repeat (first | (with_reducible first | exact HB.out | apply bL | apply bP | apply bD | refine bS ?_ GE243.out) | exact HB.out)⟩⟩
        ·replace c15 := Bool.eq_false_iff.mpr c15
         subst c15
         have H1 : (some false) = some r := by rw [if_neg (show ¬ (false = true) by decide)] at H; exact H
         clear H; have H := H1; clear H1; obtain rfl := Option.some.inj H; obtain ⟨hcz18_0, hcz18_1, hcz18_2, hfz18_0, hfz18_1, hfz18_2⟩ := b6 BK243.out; have p245 : 0 ≤ (x3_2 : Int) := of_decide_eq_true (by assumption); have q245 : x3_2 < (l0_0.length : Int) := of_decide_eq_true (by assumption); obtain ⟨ad245, A245_1, c245_1, e245, hx245_0, hx245_1, hx245_2, hl245_1, hi245_1⟩ := at_T41 HR0_0.out x3_2 p245 q245; cases e245; replace hx245_0 := (HB.out.cell (World.block_lt_of_cell? w _ hx245_0)).trans hx245_0; replace hx245_1 := (HB.out.cell (World.block_lt_of_cell? w _ hx245_1)).trans hx245_1; replace hx245_2 := (HB.out.cell (World.block_lt_of_cell? w _ hx245_2)).trans hx245_2; have HR245_1 := zA hi245_1; have HC245_1 := zA hl245_1; clear hi245_1 hl245_1; replace p245 := eq_true p245; replace q245 := eq_true q245
         go_wp2_with (first | (go_at_call 50; (with_reducible refine (reelkeeperref12_May.calls k2 ((rd_T41 l0_0 x3_2).f0) _ _ ((rd_T41 l0_0 x3_2).f1) ((rd_T41 l0_0 x3_2).f2) false _ ?side1 ?side2 A14.out).mono ?_); (case side1 => repeat (first | exact (Kd.C_below HR245_1.out HB.out) | (with_reducible refine Kd.C_alloc ?_ _) | (with_reducible refine Kd.C_drewN ?_ _) | (with_reducible refine Kd.C_drew ?_))); (case side2 => exact HC245_1.out); rintro e w19 ⟨rfl, hb⟩; replace BK243 := zA (bK BK243.out hb); replace HB := zA (below_step HB.out hb); (try clear hb); (try clear hb2); (try clear hk); (try clear hi)))
         repeat (go_quiet (first | (go_at_call 50; (with_reducible refine (reelkeeperref12_May.calls k2 ((rd_T41 l0_0 x3_2).f0) _ _ ((rd_T41 l0_0 x3_2).f1) ((rd_T41 l0_0 x3_2).f2) false _ ?side1 ?side2 A14.out).mono ?_); (case side1 => repeat (first | exact (Kd.C_below HR245_1.out HB.out) | (with_reducible refine Kd.C_alloc ?_ _) | (with_reducible refine Kd.C_drewN ?_ _) | (with_reducible refine Kd.C_drew ?_))); (case side2 => exact HC245_1.out); rintro e w19 ⟨rfl, hb⟩; replace BK243 := zA (bK BK243.out hb); replace HB := zA (below_step HB.out hb); (try clear hb); (try clear hb2); (try clear hk); (try clear hi))); try go_wp2_with (first | (go_at_call 50; (with_reducible refine (reelkeeperref12_May.calls k2 ((rd_T41 l0_0 x3_2).f0) _ _ ((rd_T41 l0_0 x3_2).f1) ((rd_T41 l0_0 x3_2).f2) false _ ?side1 ?side2 A14.out).mono ?_); (case side1 => repeat (first | exact (Kd.C_below HR245_1.out HB.out) | (with_reducible refine Kd.C_alloc ?_ _) | (with_reducible refine Kd.C_drewN ?_ _) | (with_reducible refine Kd.C_drew ?_))); (case side2 => exact HC245_1.out); rintro e w19 ⟨rfl, hb⟩; replace BK243 := zA (bK BK243.out hb); replace HB := zA (below_step HB.out hb); (try clear hb); (try clear hb2); (try clear hk); (try clear hi))))
         go_ret
         exact ⟨by first | rfl | (simp [errW_none, errW_some] <;> rfl) | (simp [*, errW_none, errW_some] <;> rfl), by repeat (first | (with_reducible first | exact HB.out | apply bL | apply bP | apply bD | refine bS ?_ GE243.out) | exact HB.out)⟩
       ·rw [if_neg c13] at H
        exact absurd H (by simp)
      ·rw [if_neg c12] at H
       have c12b0 : decide (x3_2 < (l0_0.length : Int)) = false := decide_eq_false c12; clear c12
       by_cases c20 : a0_1 < 0
       ·rw [if_pos c20] at H
        have c20b0 : decide (a0_1 < 0) = true := decide_eq_true c20; clear c20; obtain rfl := Option.some.inj H; obtain ⟨hcz21_0, hcz21_1, hcz21_2, hfz21_0, hfz21_1, hfz21_2⟩ := b6 BK243.out
        go_wp2
        repeat (go_quiet (fail); try go_wp2)
        go_ret
        exact ⟨by first | rfl | (simp [errW_none, errW_some] <;> rfl) | (simp [*, errW_none, errW_some] <;> rfl), by repeat (first | (with_reducible first | exact HB.out | apply bL | apply bP | apply bD | refine bS ?_ GE243.out) | exact HB.out)⟩
       ·rw [if_neg c20] at H
        have c20b0 : decide (a0_1 < 0) = false := decide_eq_false c20; clear c20
        by_cases c22 : 0 ≤ a0_1
        ·rw [if_pos c22] at H
         have c22b0 : decide (0 ≤ a0_1) = true := decide_eq_true c22; clear c22
         by_cases c23 : a0_1 < (l0_0.length : Int)
         ·rw [if_pos c23] at H
          have c23b0 : decide (a0_1 < (l0_0.length : Int)) = true := decide_eq_true c23; clear c23; obtain rfl := Option.some.inj H; obtain ⟨hcz24_0, hcz24_1, hcz24_2, hfz24_0, hfz24_1, hfz24_2⟩ := b6 BK243.out; have p244 : 0 ≤ (a0_1 : Int) := of_decide_eq_true (by assumption); have q244 : a0_1 < (l0_0.length : Int) := of_decide_eq_true (by assumption); obtain ⟨ad244, A244_1, c244_1, e244, hx244_0, hx244_1, hx244_2, hl244_1, hi244_1⟩ := at_T41 HR0_0.out a0_1 p244 q244; cases e244; replace hx244_0 := (HB.out.cell (World.block_lt_of_cell? w _ hx244_0)).trans hx244_0; replace hx244_1 := (HB.out.cell (World.block_lt_of_cell? w _ hx244_1)).trans hx244_1; replace hx244_2 := (HB.out.cell (World.block_lt_of_cell? w _ hx244_2)).trans hx244_2; have HR244_1 := zA hi244_1; have HC244_1 := zA hl244_1; clear hi244_1 hl244_1; replace p244 := eq_true p244; replace q244 := eq_true q244
          go_wp2
          repeat (go_quiet (fail); try go_wp2)
          go_ret
          exact ⟨by first | rfl | (simp [errW_none, errW_some] <;> rfl) | (simp [*, errW_none, errW_some] <;> rfl), by repeat (first | (with_reducible first | exact HB.out | apply bL | apply bP | apply bD | refine bS ?_ GE243.out) | exact HB.out)⟩
         ·rw [if_neg c23] at H
          exact absurd H (by simp)
        ·rw [if_neg c22] at H
         exact absurd H (by simp)

end Go.Proofs.Ytpbfeegfkiegeaa.M
