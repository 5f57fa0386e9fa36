/- Part of a claim: what some functions of the program compute, each with its contract; no condition of its own. Written by a program of this workplace (gen.py, over the print of the kit) and by hand. -/
import Derived.Test.YtpbfeegfkiegeaaM0
import Derived.Test.YtpbfeegfkiegeaaM9
import Derived.Test.YtpbfeegfkiegeaaM21
import Derived.Test.YtpbfeegfkiegeaaM22
namespace Go.Proofs.Ytpbfeegfkiegeaa.M
open Go.RowKit Go.Proofs.YtpbfeegfkiegeaaW.PrintWords Go.Proofs.YtpbfeegfkiegeaaW.PrintLast Go.Proofs.YtpbfeegfkiegeaaW.PrintMore
attribute [local go_sem] max2_int min2_int max_two min_two max_three min_three max_four min_four   -- for this text's walks alone
set_option linter.unusedVariables false
set_option linter.unusedSimpArgs false

def reelkeeperref12_Write.j0 : Nat → List Int → Bool → Int → List (List Int) → Bool → Option (Int × (List (List Int)) × Bool × Int)
  | 0, _, _, _, _, _ => none
  | k + 1, x1, x18, x267000, x267001, x267002 => if x18 = true then (some (x267000, x267001, x267002, 1)) else (if x267002 = true then (some (x267000, x267001, x267002, 8)) else (if (x267001.length : Int) ≥ x267000 then (some (x267000, x267001, x267002, 8)) else (if ([] : List (List Int)).length + x267001.length < 5864062014805 then ((some (([] : List (List Int)) ++ x267001 : List (List Int))).bind fun y270 => (if ([] : List Int).length + x1.length < 140737488355328 then (if y270.length < 5864062014805 then (some (x267000, (y270 ++ [(([] : List Int) ++ x1)]), false, 0)) else (none)) else (none))) else (none))))
def reelkeeperref12_Write.f (k : Nat) (a0_0 : Int) (l0_1 : List (List Int)) (a0_2 : Bool) (l1 : List Int) : Option (Int × (List (List Int)) × Bool × Int) := (reelkeeperref12_May.f k a0_0 l0_1 a0_2).bind fun t268 => ((reelkeeperref11_May.f l1).bind fun t269 => (if t268 = true then (reelkeeperref12_Write.j0 k l1 (!t269) a0_0 l0_1 a0_2) else (reelkeeperref12_Write.j0 k l1 true a0_0 l0_1 a0_2)))
theorem reelkeeperref12_Write.mono_l : ∀ k, (∀ y0 y1 y2 y3 y4, LeO (reelkeeperref12_Write.j0 k y0 y1 y2 y3 y4) (reelkeeperref12_Write.j0 (k + 1) y0 y1 y2 y3 y4))
  | 0 => fun _ _ _ _ _ r h => by simp [reelkeeperref12_Write.j0] at h
  | k + 1 => by
    have ih0 := reelkeeperref12_Write.mono_l k
    · intro y0 y1 y2 y3 y4
      unfold reelkeeperref12_Write.j0
      repeat' first
      | (with_reducible exact ih0 _ _ _ _ _)
      | (with_reducible exact reelkeeperref12_May.mono _ _ _ _)
      | (with_reducible exact LeO.refl _)
      | (with_reducible exact LeO.none _)
      | (with_reducible refine LeO.ite ?_ ?_)
      | (with_reducible refine LeO.bind ?_ (fun _ => ?_))
      | exact ih0 _ _ _ _ _
      | exact reelkeeperref12_May.mono _ _ _ _
      | exact LeO.none _
      | refine LeO.ite ?_ ?_
      | refine LeO.bind ?_ (fun _ => ?_)
theorem reelkeeperref12_Write.mono : ∀ a0 a1 a2 a3 k, LeO (reelkeeperref12_Write.f k a0 a1 a2 a3) (reelkeeperref12_Write.f (k + 1) a0 a1 a2 a3) := by
  intro a0 a1 a2 a3 k
  have ih0 := reelkeeperref12_Write.mono_l k
  unfold reelkeeperref12_Write.f
  repeat' first
      | (with_reducible exact ih0 _ _ _ _ _)
      | (with_reducible exact reelkeeperref12_May.mono _ _ _ _)
      | (with_reducible exact LeO.refl _)
      | (with_reducible exact LeO.none _)
      | (with_reducible refine LeO.ite ?_ ?_)
      | (with_reducible refine LeO.bind ?_ (fun _ => ?_))
      | exact ih0 _ _ _ _ _
      | exact reelkeeperref12_May.mono _ _ _ _
      | exact LeO.none _
      | refine LeO.ite ?_ ?_
      | refine LeO.bind ?_ (fun _ => ?_)
def reelkeeperref12_Write.T8 : Bool × List (List Nat × List Nat) := (true, [([], []), ([0], [0]), ([], []), ([], []), ([3], [3]), ([4], [4]), ([2, 5, 4], [2, 5]), ([1, 6], [1, 6]), ([7, 6, 0, 1, 2, 3, 4, 5, 6, 7], [7]), ([8, 0, 1, 2, 3, 4, 5, 6, 7, 8], [])])
def reelkeeperref12_Write.B8 : List Nat := [0, 1, 0, 0, 8, 24, 60, 127, 255, 511]
theorem reelkeeperref12_Write.tab8 : rtab .any (opsOf Try.f43 8) = reelkeeperref12_Write.T8 := by kernel_rfl
theorem reelkeeperref12_Write.bits8 : waitsOk reelkeeperref12_Write.T8.2 reelkeeperref12_Write.B8 = true := by kernel_rfl
set_option maxHeartbeats 8000000 in
set_option maxRecDepth 100000 in
theorem reelkeeperref12_Write.calls (k : Nat) (a0_0 : Int) (P0_1_ : Nat → Prop) (A0_1 : Option Addr) (c0_1 : Nat) (l0_1 : List (List Int)) (a0_2 : Bool) (A1 : Option Addr) (c1 : Nat) (l1 : List Int) (r1 : Int) (r2 : List (List Int)) (r3 : Bool) (r4 : Int) (w : World) (hs0_1 : Kd.V (Kd.slice 5 (Kd.int .u8)) 25 w w.heap.size (fun k_ => P0_1_ k_) (.slice A0_1 l0_1.length c0_1) l0_1) (hr1 : Kd.C (Kd.int .u8) w A1 l1.length l1) (hc1 : l1.length ≤ c1) (h : reelkeeperref12_Write.f k a0_0 l0_1 a0_2 l1 = some (r1, r2, r3, r4)) :
  Calls Try.prog 43 #[.agg #[.int .i64 a0_0, .slice A0_1 l0_1.length c0_1, .bool a0_2], .slice A1 l1.length c1] w fun e w' => ∃ v1_ : Value, e = .returned (.tuple #[.agg #[.int .i64 r1, v1_, .bool r3], .int .i64 r4]) ∧ Kd.V (Kd.slice 5 (Kd.int .u8)) 25 w' w.heap.size (fun k_ => (P0_1_ k_ ∨ w.heap.size ≤ k_)) v1_ r2 ∧ Below w.heap.size w w' := by
 have hu41 := Try.underlying41; have HO0_1 := zA (show Kd.V (Kd.slice 5 (Kd.int .u8)) 25 w w.heap.size (fun k_ => (P0_1_ k_ ∨ w.heap.size ≤ k_)) (.slice A0_1 l0_1.length c0_1) l0_1 from Kd.V_mono hs0_1 (fun k_ hk => .inl hk)); have HR1 := zA hr1; have HC1 := zA hc1; clear hr1 hc1; have HB := zA (Below.refl w.heap.size w); have H : ((reelkeeperref12_May.f k a0_0 l0_1 a0_2).bind fun t268 => ((reelkeeperref11_May.f l1).bind fun t269 => (if t268 = true then (reelkeeperref12_Write.j0 k l1 (!t269) a0_0 l0_1 a0_2) else (reelkeeperref12_Write.j0 k l1 true a0_0 l0_1 a0_2)))) = some (r1, r2, r3, r4) := h; clear h; replace H := Option.bind_eq_some_iff.mp H; obtain ⟨t268, A30, H⟩ := H; replace H : ((reelkeeperref11_May.f l1).bind fun t269 => (if t268 = true then (reelkeeperref12_Write.j0 k l1 (!t269) a0_0 l0_1 a0_2) else (reelkeeperref12_Write.j0 k l1 true a0_0 l0_1 a0_2))) = some (r1, r2, r3, r4) := H; have A3 := zA A30; clear A30; replace H := Option.bind_eq_some_iff.mp H; obtain ⟨t269, A40, H⟩ := H; replace H : (if t268 = true then (reelkeeperref12_Write.j0 k l1 (!t269) a0_0 l0_1 a0_2) else (reelkeeperref12_Write.j0 k l1 true a0_0 l0_1 a0_2)) = some (r1, r2, r3, r4) := H; have A4 := zA A40; clear A40; have HC5 := zA H; clear H
 go_enter Try.func43, Try.ntmps43
 go_upto_region 3 with (first | ((with_reducible refine gate_dst (N := 2) rfl ?_); (try (refine gate_guard (by rfl) ?_; dsimp only)); refine box_event ?hg (N := 2) ?hd (cs := #[.int .i64 a0_0, .slice A0_1 l0_1.length c0_1, .bool a0_2]) (t := 41) ?hr ?_; (case hd => rfl); (case hg => rfl); (case hr => first | (go_simp; done) | (go_simp; rfl)); intro gb266 hg w6 hbox hb; replace HO0_1 := zA (Kd.V_below (Kd.V_elderB HO0_1.out gb266 (Nat.le_of_eq hg.symm)) hb); have BK266 := zA (hbox); have GE266 := zA (gW HB.out hg); replace HB := zA (below_step HB.out hb); clear hb hbox hg) | ((with_reducible refine gate_dst (N := 4) rfl ?_); (try (refine gate_guard (by rfl) ?_; dsimp only)); refine box_event ?hg (N := 4) ?hd (cs := #[.int .i64 0, .slice none 0 0, .bool false]) (t := 41) ?hr ?_; (case hd => rfl); (case hg => rfl); (case hr => first | (go_simp; done) | (go_simp; rfl)); intro gb267 hg w7 hbox hb; replace HO0_1 := zA (Kd.V_below (Kd.V_elderB HO0_1.out gb267 (Nat.le_of_eq hg.symm)) hb); have BK267 := zA (hbox); have GE267 := zA (gW HB.out hg); replace HB := zA (below_step HB.out hb); have NB266_267 := zA (gL BK266.out hg); have NB267_266 := zA (gG BK266.out hg); replace BK266 := zA (bK BK266.out hb); clear hb hbox hg; have hnb8 := NB266_267.out; have hnc8 := NB267_266.out; obtain ⟨hcz9_0, hcz9_1, hcz9_2, hfz9_0, hfz9_1, hfz9_2⟩ := b6 BK266.out) | ((with_reducible refine gate_callee (f := 50) rfl ?_); refine goesL_ (some 10) rfl rfl Try.func50 (by kernel_rfl) rfl #[.agg #[.int .i64 a0_0, .slice A0_1 l0_1.length c0_1, .bool a0_2]] rfl (by (try simp only [List.map_toArray, List.map_cons, List.map_nil]); first | done | rfl | (simp only [List.length_drop, List.length_take]; rfl)) ?_; (with_reducible refine (reelkeeperref12_May.calls k a0_0 _ _ l0_1 a0_2 t268 _ ?side1 ?side2 A3.out).mono ?_); (case side1 => repeat (first | exact (Kd.V_reads' HO0_1.out).2.2 | (with_reducible refine Kd.C_alloc ?_ _) | (with_reducible refine Kd.C_drewN ?_ _) | (with_reducible refine Kd.C_drew ?_))); (case side2 => exact (Kd.V_reads' HO0_1.out).2.1); rintro e w10 ⟨rfl, hb⟩; refine ⟨_, rfl, ?_⟩; replace HO0_1 := zA (Kd.V_below HO0_1.out hb); replace BK266 := zA (bK BK266.out hb); replace BK267 := zA (bK BK267.out hb); replace HB := zA (below_step HB.out hb); (try clear hb); (try clear hb2); (try clear hk); (try clear hi)) | ((with_reducible refine gate_callee (f := 62) rfl ?_); refine goesL_ (some 12) rfl rfl Try.func62 (by kernel_rfl) rfl #[.slice A1 l1.length c1] rfl (by (try simp only [List.map_toArray, List.map_cons, List.map_nil]); first | done | rfl | (simp only [List.length_drop, List.length_take]; rfl)) ?_; (with_reducible refine (reelkeeperref11_May.calls _ _ l1 t269 _ ?side1 ?side2 A4.out).mono ?_); (case side1 => repeat (first | exact (Kd.C_below HR1.out HB.out) | (with_reducible refine Kd.C_alloc ?_ _) | (with_reducible refine Kd.C_drewN ?_ _) | (with_reducible refine Kd.C_drew ?_))); (case side2 => exact HC1.out); rintro e w' ⟨rfl, ⟨nd, rfl⟩⟩; refine ⟨_, rfl, ?_⟩))
 (try simp only [Act.put, sA, sB, sC])
 go_cut [18] (fun v18 wc => ∃ (kq : Nat) (x18_4 : Bool), v18 = .bool x18_4 ∧ Aside0 (reelkeeperref12_Write.j0 kq l1 x18_4 a0_0 l0_1 a0_2 = some (r1, r2, r3, r4)) ∧ Aside0 (kq ≤ k) ∧ Aside0 (Kd.V (Kd.slice 5 (Kd.int .u8)) 25 wc w.heap.size (fun k_ => (P0_1_ k_ ∨ w.heap.size ≤ k_) ∧ k_ ≠ gb266 ∧ k_ ≠ gb267) (.slice A0_1 l0_1.length c0_1) l0_1) ∧ Aside0 (wc.heap[gb266]? = some (.cells #[.int .i64 a0_0, (.slice A0_1 l0_1.length c0_1), .bool a0_2] 41 (0, 0))) ∧ Aside0 (wc.heap[gb267]? = some (.cells #[.int .i64 0, (.slice none 0 0), .bool false] 41 (0, 0))) ∧ Aside0 (Below w.heap.size w wc))
 case first =>
  have H := HC5.out; clear HC5
  by_cases c11 : t268 = true
  ·subst c11
   have H1 : (reelkeeperref12_Write.j0 k l1 (!t269) a0_0 l0_1 a0_2) = some (r1, r2, r3, r4) := by rw [if_pos rfl] at H; exact H
   clear H; have H := H1; clear H1; have H' := zA H; clear H
   go_wp2
   go_meet
   case rel => exact ⟨_, (!t269), (by first | rfl | (simp; done) | (simp [*]; done)), H', ⟨by first | omega | exact Nat.le_refl _⟩, ⟨by exact Kd.V_mono HO0_1.out (fun _ hk => ⟨hk.1.1, ⟨hk.1.2, hk.2⟩⟩)⟩, ⟨by exact BK266.out⟩, ⟨by exact BK267.out⟩, ⟨by repeat (first | (with_reducible first | exact HB.out | apply bL | apply bP | apply bD | refine bS ?_ GE266.out | refine bS ?_ GE267.out) | exact HB.out)⟩⟩
  ·replace c11 := Bool.eq_false_iff.mpr c11
   subst c11
   have H1 : (reelkeeperref12_Write.j0 k l1 true a0_0 l0_1 a0_2) = some (r1, r2, r3, r4) := by rw [if_neg (show ¬ (false = true) by decide)] at H; exact H
   clear H; have H := H1; clear H1; have H' := zA H; clear H
   go_wp2
   go_meet
   case rel => exact ⟨_, (true), (by first | rfl | (simp; done) | (simp [*]; done)), H', ⟨by first | omega | exact Nat.le_refl _⟩, ⟨by exact Kd.V_mono HO0_1.out (fun _ hk => ⟨hk.1.1, ⟨hk.1.2, hk.2⟩⟩)⟩, ⟨by exact BK266.out⟩, ⟨by exact BK267.out⟩, ⟨by repeat (first | (with_reducible first | exact HB.out | apply bL | apply bP | apply bD | refine bS ?_ GE266.out | refine bS ?_ GE267.out) | exact HB.out)⟩⟩
 case rest =>
  clear HC5
  try clear c1
  try clear p2
  try clear c4
  try clear c5
  try clear c6
  try clear c8
  try clear c11
  try clear hcz9_0
  try clear hcz9_1
  try clear hcz9_2
  try clear hfz9_0
  try clear hfz9_1
  try clear hfz9_2
  obtain ⟨kq, x18_4, rfl, HA, HJ4, HO_267001, BK266, BK267, HB⟩ := hcut
  cases kq with
  | zero => exact absurd HA.out (by simp [reelkeeperref12_Write.j0])
  | succ kj4 =>
   have H := HA.out; clear HA
   simp only [reelkeeperref12_Write.j0] at H
   by_cases c12 : x18_4 = true
   ·subst c12
    have H1 : (some (a0_0, l0_1, a0_2, 1)) = some (r1, r2, r3, r4) := by rw [if_pos rfl] at H; exact H
    clear H; have H := H1; clear H1
    simp only [Option.some.injEq, Prod.mk.injEq] at H
    obtain ⟨rfl, rfl, rfl, rfl⟩ := H; have hnb13 := NB266_267.out; have hnc13 := NB267_266.out; obtain ⟨hcz14_0, hcz14_1, hcz14_2, hfz14_0, hfz14_1, hfz14_2⟩ := b6 BK266.out; obtain ⟨hcz15_0, hcz15_1, hcz15_2, hfz15_0, hfz15_1, hfz15_2⟩ := b6 BK267.out
    go_wp2
    refine bodyPost_ret (results_ct rfl _ _ gb267 41 #[.int .i64 a0_0, .slice A0_1 l0_1.length c0_1, .bool a0_2] (0, 0) _ rfl (by refine blk_put (cs := #[.int .i64 a0_0, .slice A0_1 l0_1.length c0_1, .bool false]) ?_ 2 _ rfl; refine blk_put (cs := #[.int .i64 a0_0, .slice none 0 0, .bool false]) ?_ 1 _ rfl; refine blk_put (cs := #[.int .i64 0, .slice none 0 0, .bool false]) ?_ 0 _ rfl; exact BK267.out) Try.underlying41 rfl (by kernel_rfl)) rfl ?_; exact ⟨_, by first | rfl | (simp [errW_none, errW_some] <;> rfl) | (simp [*, errW_none, errW_some] <;> rfl), by exact Kd.V_mono (Kd.V_far (p := ⟨gb267, 2, none⟩) (Kd.V_far (p := ⟨gb267, 1, none⟩) (Kd.V_far (p := ⟨gb267, 0, none⟩) (Kd.V_mono HO_267001.out (fun k_ hk => (⟨hk, hk.2.2⟩ : _ ∧ k_ ≠ gb267))) (fun _ hk => hk.2) (.int .i64 a0_0)) (fun _ hk => hk.2) (.slice A0_1 l0_1.length c0_1)) (fun _ hk => hk.2) (.bool a0_2)) (fun _ hk => hk.1.1), by repeat (first | (with_reducible first | exact HB.out | apply bL | apply bP | apply bD | refine bS ?_ GE266.out | refine bS ?_ GE267.out) | exact HB.out)⟩
   ·replace c12 := Bool.eq_false_iff.mpr c12
    subst c12
    have H1 : (if a0_2 = true then (some (a0_0, l0_1, a0_2, 8)) else (if (l0_1.length : Int) ≥ a0_0 then (some (a0_0, l0_1, a0_2, 8)) else (if ([] : List (List Int)).length + l0_1.length < 5864062014805 then ((some (([] : List (List Int)) ++ l0_1 : List (List Int))).bind fun y270 => (if ([] : List Int).length + l1.length < 140737488355328 then (if y270.length < 5864062014805 then (some (a0_0, (y270 ++ [(([] : List Int) ++ l1)]), false, 0)) else (none)) else (none))) else (none)))) = some (r1, r2, r3, r4) := by rw [if_neg (show ¬ (false = true) by decide)] at H; exact H
    clear H; have H := H1; clear H1
    by_cases c16 : a0_2 = true
    ·subst c16
     have H1 : (some (a0_0, l0_1, true, 8)) = some (r1, r2, r3, r4) := by rw [if_pos rfl] at H; exact H
     clear H; have H := H1; clear H1
     simp only [Option.some.injEq, Prod.mk.injEq] at H
     obtain ⟨rfl, rfl, rfl, rfl⟩ := H; have hnb17 := NB266_267.out; have hnc17 := NB267_266.out; obtain ⟨hcz18_0, hcz18_1, hcz18_2, hfz18_0, hfz18_1, hfz18_2⟩ := b6 BK266.out; obtain ⟨hcz19_0, hcz19_1, hcz19_2, hfz19_0, hfz19_1, hfz19_2⟩ := b6 BK267.out
     go_wp2
     refine bodyPost_ret (results_ct rfl _ _ gb267 41 #[.int .i64 a0_0, .slice A0_1 l0_1.length c0_1, .bool true] (0, 0) _ rfl (by refine blk_put (cs := #[.int .i64 a0_0, .slice A0_1 l0_1.length c0_1, .bool false]) ?_ 2 _ rfl; refine blk_put (cs := #[.int .i64 a0_0, .slice none 0 0, .bool false]) ?_ 1 _ rfl; refine blk_put (cs := #[.int .i64 0, .slice none 0 0, .bool false]) ?_ 0 _ rfl; exact BK267.out) Try.underlying41 rfl (by kernel_rfl)) rfl ?_; exact ⟨_, by first | rfl | (simp [errW_none, errW_some] <;> rfl) | (simp [*, errW_none, errW_some] <;> rfl), by exact Kd.V_mono (Kd.V_far (p := ⟨gb267, 2, none⟩) (Kd.V_far (p := ⟨gb267, 1, none⟩) (Kd.V_far (p := ⟨gb267, 0, none⟩) (Kd.V_mono HO_267001.out (fun k_ hk => (⟨hk, hk.2.2⟩ : _ ∧ k_ ≠ gb267))) (fun _ hk => hk.2) (.int .i64 a0_0)) (fun _ hk => hk.2) (.slice A0_1 l0_1.length c0_1)) (fun _ hk => hk.2) (.bool true)) (fun _ hk => hk.1.1), by repeat (first | (with_reducible first | exact HB.out | apply bL | apply bP | apply bD | refine bS ?_ GE266.out | refine bS ?_ GE267.out) | exact HB.out)⟩
    ·replace c16 := Bool.eq_false_iff.mpr c16
     subst c16
     have H1 : (if (l0_1.length : Int) ≥ a0_0 then (some (a0_0, l0_1, false, 8)) else (if ([] : List (List Int)).length + l0_1.length < 5864062014805 then ((some (([] : List (List Int)) ++ l0_1 : List (List Int))).bind fun y270 => (if ([] : List Int).length + l1.length < 140737488355328 then (if y270.length < 5864062014805 then (some (a0_0, (y270 ++ [(([] : List Int) ++ l1)]), false, 0)) else (none)) else (none))) else (none))) = some (r1, r2, r3, r4) := by rw [if_neg (show ¬ (false = true) by decide)] at H; exact H
     clear H; have H := H1; clear H1
     by_cases c20 : (l0_1.length : Int) ≥ a0_0
     ·rw [if_pos c20] at H
      have c20b0 : decide (a0_0 ≤ (l0_1.length : Int)) = true := decide_eq_true c20; clear c20
      simp only [Option.some.injEq, Prod.mk.injEq] at H
      obtain ⟨rfl, rfl, rfl, rfl⟩ := H; have hnb21 := NB266_267.out; have hnc21 := NB267_266.out; obtain ⟨hcz22_0, hcz22_1, hcz22_2, hfz22_0, hfz22_1, hfz22_2⟩ := b6 BK266.out; obtain ⟨hcz23_0, hcz23_1, hcz23_2, hfz23_0, hfz23_1, hfz23_2⟩ := b6 BK267.out
      go_wp2
      refine bodyPost_ret (results_ct rfl _ _ gb267 41 #[.int .i64 a0_0, .slice A0_1 l0_1.length c0_1, .bool false] (0, 0) _ rfl (by refine blk_put (cs := #[.int .i64 a0_0, .slice A0_1 l0_1.length c0_1, .bool false]) ?_ 2 _ rfl; refine blk_put (cs := #[.int .i64 a0_0, .slice none 0 0, .bool false]) ?_ 1 _ rfl; refine blk_put (cs := #[.int .i64 0, .slice none 0 0, .bool false]) ?_ 0 _ rfl; exact BK267.out) Try.underlying41 rfl (by kernel_rfl)) rfl ?_; exact ⟨_, by first | rfl | (simp [errW_none, errW_some] <;> rfl) | (simp [*, errW_none, errW_some] <;> rfl), by exact Kd.V_mono (Kd.V_far (p := ⟨gb267, 2, none⟩) (Kd.V_far (p := ⟨gb267, 1, none⟩) (Kd.V_far (p := ⟨gb267, 0, none⟩) (Kd.V_mono HO_267001.out (fun k_ hk => (⟨hk, hk.2.2⟩ : _ ∧ k_ ≠ gb267))) (fun _ hk => hk.2) (.int .i64 a0_0)) (fun _ hk => hk.2) (.slice A0_1 l0_1.length c0_1)) (fun _ hk => hk.2) (.bool false)) (fun _ hk => hk.1.1), by repeat (first | (with_reducible first | exact HB.out | apply bL | apply bP | apply bD | refine bS ?_ GE266.out | refine bS ?_ GE267.out) | exact HB.out)⟩
     ·rw [if_neg c20] at H
      have c20b0 : decide (a0_0 ≤ (l0_1.length : Int)) = false := decide_eq_false c20; clear c20
      by_cases c24 : ([] : List (List Int)).length + l0_1.length < 5864062014805
      ·rw [if_pos c24] at H
       have LMc24 := zA c24; clear c24; obtain ⟨y270, hy270⟩ : ∃ y_ : List (List Int), y_ = (([] : List (List Int)) ++ l0_1) := ⟨_, rfl⟩
       replace H : (if ([] : List Int).length + l1.length < 140737488355328 then (if y270.length < 5864062014805 then (some (a0_0, (y270 ++ [(([] : List Int) ++ l1)]), false, 0)) else (none)) else (none)) = some (r1, r2, r3, r4) := by first | (rw [hy270]; with_reducible exact H) | (have H2_ := (Option.bind_some _ _).symm.trans H; rw [hy270]; with_reducible exact H2_) | (have H2_ := (Option.bind_some _ _).symm.trans H; with_reducible exact H2_) | with_reducible exact H | (rw [hy270]; exact H) | exact H
       have Ny270 := zA hy270; clear hy270
       by_cases c25 : ([] : List Int).length + l1.length < 140737488355328
       ·rw [if_pos c25] at H
        have LMc25 := zA c25; clear c25; obtain ⟨y273, hy273⟩ : ∃ y_ : List Int, y_ = (([] : List Int) ++ l1) := ⟨_, rfl⟩
        replace H : (if y270.length < 5864062014805 then (some (a0_0, (y270 ++ [y273]), false, 0)) else (none)) = some (r1, r2, r3, r4) := by first | (rw [hy273]; with_reducible exact H) | (have H2_ := (Option.bind_some _ _).symm.trans H; rw [hy273]; with_reducible exact H2_) | (have H2_ := (Option.bind_some _ _).symm.trans H; with_reducible exact H2_) | with_reducible exact H | (rw [hy273]; exact H) | exact H
        have Ny273 := zA hy273; clear hy273
        by_cases c26 : y270.length < 5864062014805
        ·rw [if_pos c26] at H
         have LMc26 := zA c26; clear c26; obtain ⟨y276, hy276⟩ : ∃ y_ : List (List Int), y_ = (y270 ++ [y273]) := ⟨_, rfl⟩
         replace H : (some (a0_0, y276, false, 0)) = some (r1, r2, r3, r4) := by first | (rw [hy276]; with_reducible exact H) | (have H2_ := (Option.bind_some _ _).symm.trans H; rw [hy276]; with_reducible exact H2_) | (have H2_ := (Option.bind_some _ _).symm.trans H; with_reducible exact H2_) | with_reducible exact H | (rw [hy276]; exact H) | exact H
         have Ny276 := zA hy276; clear hy276
         simp only [Option.some.injEq, Prod.mk.injEq] at H
         obtain ⟨rfl, rfl, rfl, rfl⟩ := H; have hnb27 := NB266_267.out; have hnc27 := NB267_266.out; obtain ⟨hcz28_0, hcz28_1, hcz28_2, hfz28_0, hfz28_1, hfz28_2⟩ := b6 BK266.out
         try go_wp2_with (first | ((with_reducible refine gate_builtin (b := .append) (xs := #[.const (.slice none 0 0), .tmp 32]) rfl ?_); (try (refine gate_guard (by rfl) ?_; dsimp only)); at_builtin; refine Kd.N_append_rows (Kd.slice 5 (Kd.int .u8)) (w0 := w) w.heap.size rfl (.const (.slice none 0 0)) (.tmp 32) 39 25 (.slice none 0 0) 24 rfl Try.underlying39 info25 rfl (by decide) (by omega) (.slice none 0 0) ([] : List (List Int)) l0_1 _ _ _ (fun k_ => (P0_1_ k_ ∨ w.heap.size ≤ k_) ∧ k_ ≠ gb266 ∧ k_ ≠ gb267) (fun k_ => ((fun k_ => (P0_1_ k_ ∨ w.heap.size ≤ k_) ∧ k_ ≠ gb266 ∧ k_ ≠ gb267)) k_ ∧ some k_ ≠ (.slice none 0 0 : Value).ownBlock) rfl rfl ?aO ?aR (fun _ hk => hk) ?aF ?aB ?aS ?aL ?_; (case aR => exact (by skip; exact Kd.V_F (Kd.V_mono (ok' := (fun k_ => ((fun k_ => (P0_1_ k_ ∨ w.heap.size ≤ k_) ∧ k_ ≠ gb266 ∧ k_ ≠ gb267)) k_ ∧ some k_ ≠ (.slice none 0 0 : Value).ownBlock)) (HO_267001.out) (fun k_ hk => ⟨⟨hk.1, ⟨hk.2.1, hk.2.2⟩⟩, (by simp [Value.ownBlock])⟩)))); (case aB => exact (by repeat (first | (with_reducible first | exact HB.out | apply bL | apply bP | apply bD | refine bS ?_ GE266.out | refine bS ?_ GE267.out) | exact HB.out))); (case aF => exact (fun k_ hk => ⟨(.inr (Nat.le_trans (below_size (by repeat (first | (with_reducible first | exact HB.out | apply bL | apply bP | apply bD | refine bS ?_ GE266.out | refine bS ?_ GE267.out) | exact HB.out))) hk)), Kd.freshB BK266.out k_ hk, Kd.freshB BK267.out k_ hk⟩)); (case aO => exact ((Kd.N_nil _ _ _ _ (fun k_ => (P0_1_ k_ ∨ w.heap.size ≤ k_) ∧ k_ ≠ gb266 ∧ k_ ≠ gb267)))); (case aS => exact (below_size (by repeat (first | (with_reducible first | exact HB.out | apply bL | apply bP | apply bD | refine bS ?_ GE266.out | refine bS ?_ GE267.out) | exact HB.out)))); (case aL => have := LMc24.out; omega); intro v271 w29 ho hb hg hat; rw [← Ny270.out] at ho; replace BK266 := zA (blk_grown BK266.out hg (by simp [Value.ownBlock])); replace BK267 := zA (blk_grown BK267.out hg (by simp [Value.ownBlock])); replace HB := zA (hb); have HO272 := zA (ho); clear ho hb hg hat))
         replace HO272 := zA (Kd.N_drew HO272.out); replace BK266 := zA (bW BK266.out); replace BK267 := zA (bW BK267.out); replace HB := zA (bD HB.out); refine start_ (n := 10) (S := fun w' => w'.cell? ⟨gb266, 0, none⟩ = some (.int .i64 a0_0) ∧ w'.cell? ⟨gb266, 1, none⟩ = some (.slice A0_1 l0_1.length c0_1) ∧ w'.cell? ⟨gb266, 2, none⟩ = some (.bool false)) (ds := []) (bs 10 0) (by kernel_rfl) rfl rfl ⟨(blk_cell BK266.out 0).trans rfl, (blk_cell BK266.out 1).trans rfl, (blk_cell BK266.out 2).trans rfl⟩ (fun hHeld => ?_); refine with_tabW reelkeeperref12_Write.tab8 reelkeeperref12_Write.bits8 (fun HT_ HW_ => ?_)
         generalize w29.drew = w30 at HO_267001 HO272 BK266 BK267 HB hHeld ⊢
         refine pure_ (i := 0) (N := some 34) (v := ?_) (a' := ?_) (bs 10 1) rfl rfl (any_of HT_.out (by kernel_rfl)) (fun _ _ _ h => h) (Or.inl ⟨by rfl, ?_⟩) ?_ ?_; rotate_left
         ·intro w'
          go_simp
          with_reducible rfl
         rotate_left
         ·simp only [Act.put, sA, sB, sC, i64_w, i32_w]
          rfl
         refine pure_ (i := 2) (N := some 36) (v := ?_) (a' := ?_) (bs 10 5) rfl rfl (any_of HT_.out (by kernel_rfl)) (fun _ _ _ h => h) (Or.inl ⟨by rfl, ?_⟩) ?_ ?_; rotate_left
         ·intro w'
          go_simp
          with_reducible rfl
         rotate_left
         ·simp only [Act.put, sA, sB, sC, i64_w, i32_w]
          rfl
         refine pure_ (i := 3) (N := some 37) (v := ?_) (a' := ?_) (bs 10 13) rfl rfl (any_of HT_.out (by kernel_rfl)) (fun _ _ _ h => h) (Or.inl ⟨by rfl, ?_⟩) ?_ ?_; rotate_left
         ·intro w'
          go_simp
          with_reducible rfl
         rotate_left
         ·simp only [Act.put, sA, sB, sC, i64_w, i32_w]
          rfl
         refine take_ (i := 1) (N := some 35) (v := ?_) (a' := ?_) (bs 10 15) rfl rfl (take_ofW HT_.out HW_.out (by kernel_rfl)) (fun _ _ _ h => h) (Or.inl ⟨by rfl, ?_⟩) hHeld ?_ ?_; rotate_left
         ·rintro w' ⟨s0, s1, s2⟩
          go_simp
          with_reducible rfl
         rotate_left
         ·simp only [Act.put, sA, sB, sC, i64_w, i32_w]
          rfl
         refine one_ (i := 4) (N := some 38) (bs 10 31) rfl rfl (one_of HT_.out (by kernel_rfl)) (by decide) (fun K hK => ?_); refine Kd.R_append_rows_step (Kd.int .u8) (w0 := w) w.heap.size (by rfl) (.const (.slice none 0 0)) (.tmp 37) 25 5 (.int .u8 0) 1 rfl Try.underlying25 info5 rfl (by decide) (by omega) (.slice none 0 0) ([] : List Int) l1 _ _ _ (fun k_ => (w.heap.size ≤ k_)) (fun _ => False) rfl rfl ?aO ?aR (fun _ _ h => h) (fun _ h => h.elim) ?aF ?aB ?aS ?aL ?_
         (case aR => repeat (first | exact (Kd.C_below HR1.out HB.out) | (with_reducible refine Kd.C_alloc ?_ _) | (with_reducible refine Kd.C_drewN ?_ _) | (with_reducible refine Kd.C_drew ?_)))
         (case aB => exact (by repeat (first | (with_reducible first | exact HB.out | apply bL | apply bP | apply bD | refine bS ?_ GE266.out | refine bS ?_ GE267.out) | exact HB.out)))
         (case aF => exact (fun k_ hk => (Nat.le_trans (below_size (by repeat (first | (with_reducible first | exact HB.out | apply bL | apply bP | apply bD | refine bS ?_ GE266.out | refine bS ?_ GE267.out) | exact HB.out))) hk)))
         (case aO => exact ((Kd.R_nil _ _ _ _ (fun k_ => (w.heap.size ≤ k_)))))
         (case aS => exact (below_size (by repeat (first | (with_reducible first | exact HB.out | apply bL | apply bP | apply bD | refine bS ?_ GE266.out | refine bS ?_ GE267.out) | exact HB.out))))
         (case aL => have := LMc25.out; omega)
         intro v274 w31 ho hb hg hat
         rw [← Ny273.out] at ho
         replace BK266 := zA (blk_grown BK266.out hg (by simp [Value.ownBlock])); replace BK267 := zA (blk_grown BK267.out hg (by simp [Value.ownBlock])); replace HO272 := zA (Kd.N_afterv (Kd.N_apart_nil HO272.out) hg hat); replace HB := zA (hb); have HO275 := zA (ho); clear ho hb hg hat; obtain ⟨Ao33, co33, eo33⟩ := Kd.R_slice HO275.out
         (first | subst eo33 | (injection eo33 with f1_ f2_ f3_; have f4_ := f1_.symm; have f5_ := f3_.symm; clear f1_ f2_ f3_; subst f4_; subst f5_))
         refine hK.out _ _ ⟨(blk_cell BK266.out 0).trans rfl, (blk_cell BK266.out 1).trans rfl, (blk_cell BK266.out 2).trans rfl⟩ (fun hHeld => ?_); clear hK K; refine norm_ (a' := ?_) ?_ ?_; rotate_left
         ·show Act.put _ (some 38) _ = _
          simp only [Act.put, sA, sB, sC, i64_w, i32_w]
          rfl
         refine one_ (i := 5) (N := some 39) (bs 10 63) rfl rfl (one_of HT_.out (by kernel_rfl)) (by decide) (fun K hK => ?_); refine value_ (w1 := ?_) (v := ?_) (by rfl) rfl ?_ ?_; rotate_left 2
         ·go_simp
          constructor
          ·rfl
          ·rfl
         refine hK.out _ _ ⟨(blk_cell (bA BK266.out _) 0).trans rfl, (blk_cell (bA BK266.out _) 1).trans rfl, (blk_cell (bA BK266.out _) 2).trans rfl⟩ (fun hHeld => ?_); clear hK K; refine norm_ (a' := ?_) ?_ ?_; rotate_left
         ·show Act.put _ (some 39) _ = _
          simp only [Act.put, sA, sB, sC, i64_w, i32_w]
          rfl
         refine one_ (i := 6) (N := some 40) (bs 10 127) rfl rfl (one_of HT_.out (by kernel_rfl)) (by decide) (fun K hK => ?_); refine Kd.N_append_step (Kd.slice 5 (Kd.int .u8)) (w0 := w) w.heap.size (by rfl) (.tmp 36) (.tmp 39) 39 25 (.slice none 0 0) 24 rfl Try.underlying39 info25 rfl (by decide) (by omega) v271 y270 y273 [.slice Ao33 y273.length co33] (fun k_ => (P0_1_ k_ ∨ w.heap.size ≤ k_) ∧ k_ ≠ gb266 ∧ k_ ≠ gb267) (fun k_ => ((fun k_ => (P0_1_ k_ ∨ w.heap.size ≤ k_) ∧ k_ ≠ gb266 ∧ k_ ≠ gb267)) k_ ∧ some k_ ≠ (v271 : Value).ownBlock) rfl rfl ?aP (fun _ hk => hk) ?aF ?aO ?aB ?aS ?aL ?_
         (case aP => exact (Kd.FK_slice_mk (Kd.R_reads' (Kd.R_mono (ok' := (fun k_ => ((fun k_ => (P0_1_ k_ ∨ w.heap.size ≤ k_) ∧ k_ ≠ gb266 ∧ k_ ≠ gb267)) k_ ∧ some k_ ≠ (v271 : Value).ownBlock)) (Kd.R_types (Kd.R_types (Kd.R_apart' (HO275.out) (Kd.N_typed HO272.out) (by decide)) BK266.out (by decide)) BK267.out (by decide)) (fun k_ hk => ⟨⟨(.inr (hk.1.1.1)), ⟨hk.1.2, hk.2⟩⟩, hk.1.1.2⟩))).2.1 (Kd.R_F (Kd.R_mono (ok' := (fun k_ => ((fun k_ => (P0_1_ k_ ∨ w.heap.size ≤ k_) ∧ k_ ≠ gb266 ∧ k_ ≠ gb267)) k_ ∧ some k_ ≠ (v271 : Value).ownBlock)) (Kd.R_types (Kd.R_types (Kd.R_apart' (HO275.out) (Kd.N_typed HO272.out) (by decide)) BK266.out (by decide)) BK267.out (by decide)) (fun k_ hk => ⟨⟨(.inr (hk.1.1.1)), ⟨hk.1.2, hk.2⟩⟩, hk.1.1.2⟩)))))
         (case aB => exact (by repeat (first | (with_reducible first | exact HB.out | apply bL | apply bP | apply bD | refine bS ?_ GE266.out | refine bS ?_ GE267.out) | exact HB.out)))
         (case aF => exact (fun k_ hk => ⟨(.inr (Nat.le_trans (below_size (by repeat (first | (with_reducible first | exact HB.out | apply bL | apply bP | apply bD | refine bS ?_ GE266.out | refine bS ?_ GE267.out) | exact HB.out))) hk)), Kd.freshB BK266.out k_ hk, Kd.freshB BK267.out k_ hk⟩))
         (case aO => exact (by exact Kd.N_mono HO272.out (fun _ hk => ⟨hk.1.1, ⟨hk.1.2.1, hk.1.2.2⟩⟩)))
         (case aS => exact (below_size (by repeat (first | (with_reducible first | exact HB.out | apply bL | apply bP | apply bD | refine bS ?_ GE266.out | refine bS ?_ GE267.out) | exact HB.out))))
         (case aL => have := LMc26.out; omega)
         intro v277 w32 ho hb hg hat
         rw [← Ny276.out] at ho
         replace BK266 := zA (blk_grown BK266.out hg (Kd.N_ne HO272.out BK266.out (by decide))); replace BK267 := zA (blk_grown BK267.out hg (Kd.N_ne HO272.out BK267.out (by decide))); replace HB := zA (hb); have HO278 := zA (ho); clear ho hb hg hat; obtain ⟨Ao34, co34, eo34⟩ := Kd.N_slice HO278.out
         (first | subst eo34 | (injection eo34 with f1_ f2_ f3_; have f4_ := f1_.symm; have f5_ := f3_.symm; clear f1_ f2_ f3_; subst f4_; subst f5_))
         refine hK.out _ _ ⟨(blk_cell BK266.out 0).trans rfl, (blk_cell BK266.out 1).trans rfl, (blk_cell BK266.out 2).trans rfl⟩ (fun hHeld => ?_); clear hK K; refine norm_ (a' := ?_) ?_ ?_; rotate_left
         ·show Act.put _ (some 40) _ = _
          simp only [Act.put, sA, sB, sC, i64_w, i32_w]
          rfl
         refine pure_ (i := 7) (N := some 41) (v := ?_) (a' := ?_) (bs 10 255) rfl rfl (any_of HT_.out (by kernel_rfl)) (fun _ _ _ h => h) (Or.inl ⟨by rfl, ?_⟩) ?_ ?_; rotate_left
         ·intro w'
          go_simp
          with_reducible rfl
         rotate_left
         ·simp only [Act.put, sA, sB, sC, i64_w, i32_w]
          rfl
         refine one_ (i := 8) (N := none) (bs 10 511) rfl rfl (one_of HT_.out (by kernel_rfl)) (by decide) (fun K hK => ?_); have hs35 : w32.cell? ⟨gb267, 0, none⟩ = some (.int .i64 0) := (blk_cell BK267.out 0).trans rfl; have hfs35 := blk_frozen BK267.out 0; have hns35_0 := NB266_267.out; have hms35_0 := NB267_266.out; have hs36 : w32.cell? ⟨gb267, 1, none⟩ = some (.slice none 0 0) := (blk_cell BK267.out 1).trans rfl; have hfs36 := blk_frozen BK267.out 1; have hns36_0 := NB266_267.out; have hms36_0 := NB267_266.out; have hs37 : w32.cell? ⟨gb267, 2, none⟩ = some (.bool false) := (blk_cell BK267.out 2).trans rfl; have hfs37 := blk_frozen BK267.out 2; have hns37_0 := NB266_267.out; have hms37_0 := NB267_266.out; refine skip_ (w1 := ?_) (by rfl) rfl ?_ ?_; rotate_left
         ·go_simp
          rfl
         refine hK.out _ _ ⟨((cell_far (p := ⟨gb267, _, none⟩) NB266_267.out _).trans (((cell_far (p := ⟨gb267, _, none⟩) NB266_267.out _).trans (((cell_far (p := ⟨gb267, _, none⟩) NB266_267.out _).trans (hHeld.1)))))), ((cell_far (p := ⟨gb267, _, none⟩) NB266_267.out _).trans (((cell_far (p := ⟨gb267, _, none⟩) NB266_267.out _).trans (((cell_far (p := ⟨gb267, _, none⟩) NB266_267.out _).trans (hHeld.2.1)))))), ((cell_far (p := ⟨gb267, _, none⟩) NB266_267.out _).trans (((cell_far (p := ⟨gb267, _, none⟩) NB266_267.out _).trans (((cell_far (p := ⟨gb267, _, none⟩) NB266_267.out _).trans (hHeld.2.2))))))⟩ (fun hHeld => ?_); clear hK K; refine pure_ (i := 9) (N := some 5) (v := ?_) (a' := ?_) (bs 10 1023) rfl rfl (any_of HT_.out (by kernel_rfl)) (fun _ _ _ h => h) (Or.inl ⟨by rfl, ?_⟩) ?_ ?_; rotate_left
         ·intro w'
          go_simp
          with_reducible rfl
         rotate_left
         ·simp only [Act.put, sA, sB, sC, i64_w, i32_w]
          rfl
         refine done_ (done_of HT_.out (by kernel_rfl)) ?_
         try go_wp2
         refine bodyPost_ret (results_ct rfl _ _ gb267 41 #[.int .i64 a0_0, .slice Ao34 y276.length co34, .bool false] (0, 0) _ rfl (by refine blk_put (cs := #[.int .i64 a0_0, .slice Ao34 y276.length co34, .bool false]) ?_ 2 _ rfl; refine blk_put (cs := #[.int .i64 a0_0, .slice none 0 0, .bool false]) ?_ 1 _ rfl; refine blk_put (cs := #[.int .i64 0, .slice none 0 0, .bool false]) ?_ 0 _ rfl; exact BK267.out) Try.underlying41 rfl (by kernel_rfl)) rfl ?_; exact ⟨_, by first | rfl | (simp [errW_none, errW_some] <;> rfl) | (simp [*, errW_none, errW_some] <;> rfl), Kd.N_V (by exact Kd.N_mono (Kd.N_far (p := ⟨gb267, 2, none⟩) (Kd.N_far (p := ⟨gb267, 1, none⟩) (Kd.N_far (p := ⟨gb267, 0, none⟩) (Kd.N_mono HO278.out (fun k_ hk => (⟨hk, hk.2.2⟩ : _ ∧ k_ ≠ gb267))) (fun _ hk => hk.2) (.int .i64 a0_0)) (fun _ hk => hk.2) (.slice Ao34 y276.length co34)) (fun _ hk => hk.2) (.bool false)) (fun _ hk => hk.1.1)), by repeat (first | (with_reducible first | exact HB.out | apply bL | apply bP | apply bD | refine bS ?_ GE266.out | refine bS ?_ GE267.out) | exact HB.out)⟩
        ·rw [if_neg c26] at H
         exact absurd H (by simp)
       ·rw [if_neg c25] at H
        exact absurd H (by simp)
      ·rw [if_neg c24] at H
       exact absurd H (by simp)

end Go.Proofs.Ytpbfeegfkiegeaa.M
