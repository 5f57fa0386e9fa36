/- Part of a claim: what some functions of the program compute, each with its contract; no condition of its own. Written by a program of this workplace (gen.py, over the print of the kit) and by hand. -/
import Derived.Test.YtpbfeegfkiegeaaM0
import Derived.Test.YtpbfeegfkiegeaaM9
import Derived.Test.YtpbfeegfkiegeaaM22
namespace Go.Proofs.Ytpbfeegfkiegeaa.M
open Go.RowKit Go.Proofs.YtpbfeegfkiegeaaW.PrintWords Go.Proofs.YtpbfeegfkiegeaaW.PrintLast Go.Proofs.YtpbfeegfkiegeaaW.PrintMore
attribute [local go_sem] max2_int min2_int max_two min_two max_three min_three max_four min_four   -- for this text's walks alone
set_option linter.unusedVariables false
set_option linter.unusedSimpArgs false

def reelkeeperref12_Cut.f (k : Nat) (a0_0 : Int) (l0_1 : List (List Int)) (a0_2 : Bool) (a1 : Int) : Option (Int × (List (List Int)) × Bool × Int) := (reelkeeperref12_May.f k a0_0 l0_1 a0_2).bind fun t260 => (if t260 = true then (if a1 < 0 then (some (a0_0, l0_1, a0_2, 9)) else (if a1 > (l0_1.length : Int) then (some (a0_0, l0_1, a0_2, 9)) else (if 0 ≤ a1 then (if a1 ≤ (l0_1.length : Int) then (some (a0_0, (l0_1.take (a1 : Int).toNat), false, 0)) else (none)) else (none)))) else (some (a0_0, l0_1, a0_2, 1)))
theorem reelkeeperref12_Cut.mono : ∀ a0 a1 a2 a3 k, LeO (reelkeeperref12_Cut.f k a0 a1 a2 a3) (reelkeeperref12_Cut.f (k + 1) a0 a1 a2 a3) := by
  intro a0 a1 a2 a3 k
  unfold reelkeeperref12_Cut.f
  repeat' first
      | (with_reducible exact reelkeeperref12_May.mono _ _ _ _)
      | (with_reducible exact LeO.refl _)
      | (with_reducible exact LeO.none _)
      | (with_reducible refine LeO.ite ?_ ?_)
      | (with_reducible refine LeO.bind ?_ (fun _ => ?_))
      | exact reelkeeperref12_May.mono _ _ _ _
      | exact LeO.none _
      | refine LeO.ite ?_ ?_
      | refine LeO.bind ?_ (fun _ => ?_)
def reelkeeperref12_Cut.T6 : Bool × List (List Nat × List Nat) := (true, [([], []), ([0], [0]), ([], []), ([2], [2]), ([], []), ([3, 4], [3, 4]), ([1, 5], [1, 5]), ([6, 0, 1, 2, 3, 4, 5, 6], [6]), ([7, 0, 1, 2, 3, 4, 5, 6, 7], [])])
def reelkeeperref12_Cut.B6 : List Nat := [0, 1, 0, 4, 0, 28, 63, 127, 255]
theorem reelkeeperref12_Cut.tab6 : rtab .any (opsOf Try.f42 6) = reelkeeperref12_Cut.T6 := by kernel_rfl
theorem reelkeeperref12_Cut.bits6 : waitsOk reelkeeperref12_Cut.T6.2 reelkeeperref12_Cut.B6 = true := by kernel_rfl
set_option maxHeartbeats 8000000 in
set_option maxRecDepth 100000 in
theorem reelkeeperref12_Cut.calls (k : Nat) (a0_0 : Int) (P0_1_ : Nat → Prop) (A0_1 : Option Addr) (c0_1 : Nat) (l0_1 : List (List Int)) (a0_2 : Bool) (a1 : Int) (r1 : Int) (r2 : List (List Int)) (r3 : Bool) (r4 : Int) (w : World) (hs0_1 : Kd.V (Kd.slice 5 (Kd.int .u8)) 25 w w.heap.size (fun k_ => P0_1_ k_) (.slice A0_1 l0_1.length c0_1) l0_1) (h : reelkeeperref12_Cut.f k a0_0 l0_1 a0_2 a1 = some (r1, r2, r3, r4)) :
  Calls Try.prog 42 #[.agg #[.int .i64 a0_0, .slice A0_1 l0_1.length c0_1, .bool a0_2], .int .i64 a1] w fun e w' => ∃ v1_ : Value, e = .returned (.tuple #[.agg #[.int .i64 r1, v1_, .bool r3], .int .i64 r4]) ∧ Kd.V (Kd.slice 5 (Kd.int .u8)) 25 w' w.heap.size (fun k_ => (P0_1_ k_ ∨ w.heap.size ≤ k_)) v1_ r2 ∧ Below w.heap.size w w' := by
 have hu41 := Try.underlying41; have HO0_1 := zA (show Kd.V (Kd.slice 5 (Kd.int .u8)) 25 w w.heap.size (fun k_ => (P0_1_ k_ ∨ w.heap.size ≤ k_)) (.slice A0_1 l0_1.length c0_1) l0_1 from Kd.V_mono hs0_1 (fun k_ hk => .inl hk)); have HB := zA (Below.refl w.heap.size w); have H : ((reelkeeperref12_May.f k a0_0 l0_1 a0_2).bind fun t260 => (if t260 = true then (if a1 < 0 then (some (a0_0, l0_1, a0_2, 9)) else (if a1 > (l0_1.length : Int) then (some (a0_0, l0_1, a0_2, 9)) else (if 0 ≤ a1 then (if a1 ≤ (l0_1.length : Int) then (some (a0_0, (l0_1.take (a1 : Int).toNat), false, 0)) else (none)) else (none)))) else (some (a0_0, l0_1, a0_2, 1)))) = some (r1, r2, r3, r4) := h; clear h; replace H := Option.bind_eq_some_iff.mp H; obtain ⟨t260, A30, H⟩ := H; replace H : (if t260 = true then (if a1 < 0 then (some (a0_0, l0_1, a0_2, 9)) else (if a1 > (l0_1.length : Int) then (some (a0_0, l0_1, a0_2, 9)) else (if 0 ≤ a1 then (if a1 ≤ (l0_1.length : Int) then (some (a0_0, (l0_1.take (a1 : Int).toNat), false, 0)) else (none)) else (none)))) else (some (a0_0, l0_1, a0_2, 1))) = some (r1, r2, r3, r4) := H; have A3 := zA A30; clear A30
 by_cases c4 : t260 = true
 ·subst c4
  have H1 : (if a1 < 0 then (some (a0_0, l0_1, a0_2, 9)) else (if a1 > (l0_1.length : Int) then (some (a0_0, l0_1, a0_2, 9)) else (if 0 ≤ a1 then (if a1 ≤ (l0_1.length : Int) then (some (a0_0, (l0_1.take (a1 : Int).toNat), false, 0)) else (none)) else (none)))) = some (r1, r2, r3, r4) := by rw [if_pos rfl] at H; exact H
  clear H; have H := H1; clear H1
  by_cases c5 : a1 < 0
  ·rw [if_pos c5] at H
   have c5b0 : decide (a1 < 0) = true := decide_eq_true c5; clear c5
   simp only [Option.some.injEq, Prod.mk.injEq] at H
   obtain ⟨rfl, rfl, rfl, rfl⟩ := H
   go_enter Try.func42, Try.ntmps42
   go_wp2_with (first | ((with_reducible refine gate_dst (N := 2) rfl ?_); (try (refine gate_guard (by rfl) ?_; dsimp only)); refine box_event ?hg (N := 2) ?hd (cs := #[.int .i64 a0_0, .slice A0_1 l0_1.length c0_1, .bool a0_2]) (t := 41) ?hr ?_; (case hd => rfl); (case hg => rfl); (case hr => first | (go_simp; done) | (go_simp; rfl)); intro gb258 hg w6 hbox hb; replace HO0_1 := zA (Kd.V_below (Kd.V_elderB HO0_1.out gb258 (Nat.le_of_eq hg.symm)) hb); have BK258 := zA (hbox); have GE258 := zA (gW HB.out hg); replace HB := zA (below_step HB.out hb); clear hb hbox hg) | ((with_reducible refine gate_dst (N := 4) rfl ?_); (try (refine gate_guard (by rfl) ?_; dsimp only)); refine box_event ?hg (N := 4) ?hd (cs := #[.int .i64 0, .slice none 0 0, .bool false]) (t := 41) ?hr ?_; (case hd => rfl); (case hg => rfl); (case hr => first | (go_simp; done) | (go_simp; rfl)); intro gb259 hg w7 hbox hb; replace HO0_1 := zA (Kd.V_below (Kd.V_elderB HO0_1.out gb259 (Nat.le_of_eq hg.symm)) hb); have BK259 := zA (hbox); have GE259 := zA (gW HB.out hg); replace HB := zA (below_step HB.out hb); have NB258_259 := zA (gL BK258.out hg); have NB259_258 := zA (gG BK258.out hg); replace BK258 := zA (bK BK258.out hb); clear hb hbox hg; have hnb8 := NB258_259.out; have hnc8 := NB259_258.out; obtain ⟨hcz9_0, hcz9_1, hcz9_2, hfz9_0, hfz9_1, hfz9_2⟩ := b6 BK258.out) | ((with_reducible refine gate_callee (f := 50) rfl ?_); refine goesL_ (some 8) rfl rfl Try.func50 (by kernel_rfl) rfl #[.agg #[.int .i64 a0_0, .slice A0_1 l0_1.length c0_1, .bool a0_2]] rfl (by (try simp only [List.map_toArray, List.map_cons, List.map_nil]); first | done | rfl | (simp only [List.length_drop, List.length_take]; rfl)) ?_; (with_reducible refine (reelkeeperref12_May.calls k a0_0 _ _ l0_1 a0_2 true _ ?side1 ?side2 A3.out).mono ?_); (case side1 => repeat (first | exact (Kd.V_reads' HO0_1.out).2.2 | (with_reducible refine Kd.C_alloc ?_ _) | (with_reducible refine Kd.C_drewN ?_ _) | (with_reducible refine Kd.C_drew ?_))); (case side2 => exact (Kd.V_reads' HO0_1.out).2.1); rintro e w10 ⟨rfl, hb⟩; refine ⟨_, rfl, ?_⟩; replace HO0_1 := zA (Kd.V_below HO0_1.out hb); replace BK258 := zA (bK BK258.out hb); replace BK259 := zA (bK BK259.out hb); replace HB := zA (below_step HB.out hb); (try clear hb); (try clear hb2); (try clear hk); (try clear hi); obtain ⟨hcz11_0, hcz11_1, hcz11_2, hfz11_0, hfz11_1, hfz11_2⟩ := b6 BK258.out; obtain ⟨hcz12_0, hcz12_1, hcz12_2, hfz12_0, hfz12_1, hfz12_2⟩ := b6 BK259.out))
   refine bodyPost_ret (results_ct rfl _ _ gb259 41 #[.int .i64 a0_0, .slice A0_1 l0_1.length c0_1, .bool a0_2] (0, 0) _ rfl (by refine blk_put (cs := #[.int .i64 a0_0, .slice A0_1 l0_1.length c0_1, .bool false]) ?_ 2 _ rfl; refine blk_put (cs := #[.int .i64 a0_0, .slice none 0 0, .bool false]) ?_ 1 _ rfl; refine blk_put (cs := #[.int .i64 0, .slice none 0 0, .bool false]) ?_ 0 _ rfl; exact BK259.out) Try.underlying41 rfl (by kernel_rfl)) rfl ?_; exact ⟨_, by first | rfl | (simp [errW_none, errW_some] <;> rfl) | (simp [*, errW_none, errW_some] <;> rfl), by exact Kd.V_mono (Kd.V_far (p := ⟨gb259, 2, none⟩) (Kd.V_far (p := ⟨gb259, 1, none⟩) (Kd.V_far (p := ⟨gb259, 0, none⟩) (Kd.V_mono HO0_1.out (fun k_ hk => (⟨hk, hk.2⟩ : _ ∧ k_ ≠ gb259))) (fun _ hk => hk.2) (.int .i64 a0_0)) (fun _ hk => hk.2) (.slice A0_1 l0_1.length c0_1)) (fun _ hk => hk.2) (.bool a0_2)) (fun _ hk => hk.1.1.1), by repeat (first | (with_reducible first | exact HB.out | apply bL | apply bP | apply bD | refine bS ?_ GE258.out | refine bS ?_ GE259.out) | exact HB.out)⟩
  ·rw [if_neg c5] at H
   have c5b0 : decide (a1 < 0) = false := decide_eq_false c5; clear c5
   by_cases c13 : a1 > (l0_1.length : Int)
   ·rw [if_pos c13] at H
    have c13b0 : decide ((l0_1.length : Int) < a1) = true := decide_eq_true c13; clear c13
    simp only [Option.some.injEq, Prod.mk.injEq] at H
    obtain ⟨rfl, rfl, rfl, rfl⟩ := H
    go_enter Try.func42, Try.ntmps42
    go_wp2_with (first | ((with_reducible refine gate_dst (N := 2) rfl ?_); (try (refine gate_guard (by rfl) ?_; dsimp only)); refine box_event ?hg (N := 2) ?hd (cs := #[.int .i64 a0_0, .slice A0_1 l0_1.length c0_1, .bool a0_2]) (t := 41) ?hr ?_; (case hd => rfl); (case hg => rfl); (case hr => first | (go_simp; done) | (go_simp; rfl)); intro gb258 hg w14 hbox hb; replace HO0_1 := zA (Kd.V_below (Kd.V_elderB HO0_1.out gb258 (Nat.le_of_eq hg.symm)) hb); have BK258 := zA (hbox); have GE258 := zA (gW HB.out hg); replace HB := zA (below_step HB.out hb); clear hb hbox hg) | ((with_reducible refine gate_dst (N := 4) rfl ?_); (try (refine gate_guard (by rfl) ?_; dsimp only)); refine box_event ?hg (N := 4) ?hd (cs := #[.int .i64 0, .slice none 0 0, .bool false]) (t := 41) ?hr ?_; (case hd => rfl); (case hg => rfl); (case hr => first | (go_simp; done) | (go_simp; rfl)); intro gb259 hg w15 hbox hb; replace HO0_1 := zA (Kd.V_below (Kd.V_elderB HO0_1.out gb259 (Nat.le_of_eq hg.symm)) hb); have BK259 := zA (hbox); have GE259 := zA (gW HB.out hg); replace HB := zA (below_step HB.out hb); have NB258_259 := zA (gL BK258.out hg); have NB259_258 := zA (gG BK258.out hg); replace BK258 := zA (bK BK258.out hb); clear hb hbox hg; have hnb16 := NB258_259.out; have hnc16 := NB259_258.out; obtain ⟨hcz17_0, hcz17_1, hcz17_2, hfz17_0, hfz17_1, hfz17_2⟩ := b6 BK258.out) | ((with_reducible refine gate_callee (f := 50) rfl ?_); refine goesL_ (some 8) rfl rfl Try.func50 (by kernel_rfl) rfl #[.agg #[.int .i64 a0_0, .slice A0_1 l0_1.length c0_1, .bool a0_2]] rfl (by (try simp only [List.map_toArray, List.map_cons, List.map_nil]); first | done | rfl | (simp only [List.length_drop, List.length_take]; rfl)) ?_; (with_reducible refine (reelkeeperref12_May.calls k a0_0 _ _ l0_1 a0_2 true _ ?side1 ?side2 A3.out).mono ?_); (case side1 => repeat (first | exact (Kd.V_reads' HO0_1.out).2.2 | (with_reducible refine Kd.C_alloc ?_ _) | (with_reducible refine Kd.C_drewN ?_ _) | (with_reducible refine Kd.C_drew ?_))); (case side2 => exact (Kd.V_reads' HO0_1.out).2.1); rintro e w18 ⟨rfl, hb⟩; refine ⟨_, rfl, ?_⟩; replace HO0_1 := zA (Kd.V_below HO0_1.out hb); replace BK258 := zA (bK BK258.out hb); replace BK259 := zA (bK BK259.out hb); replace HB := zA (below_step HB.out hb); (try clear hb); (try clear hb2); (try clear hk); (try clear hi); obtain ⟨hcz19_0, hcz19_1, hcz19_2, hfz19_0, hfz19_1, hfz19_2⟩ := b6 BK258.out; obtain ⟨hcz20_0, hcz20_1, hcz20_2, hfz20_0, hfz20_1, hfz20_2⟩ := b6 BK259.out))
    refine bodyPost_ret (results_ct rfl _ _ gb259 41 #[.int .i64 a0_0, .slice A0_1 l0_1.length c0_1, .bool a0_2] (0, 0) _ rfl (by refine blk_put (cs := #[.int .i64 a0_0, .slice A0_1 l0_1.length c0_1, .bool false]) ?_ 2 _ rfl; refine blk_put (cs := #[.int .i64 a0_0, .slice none 0 0, .bool false]) ?_ 1 _ rfl; refine blk_put (cs := #[.int .i64 0, .slice none 0 0, .bool false]) ?_ 0 _ rfl; exact BK259.out) Try.underlying41 rfl (by kernel_rfl)) rfl ?_; exact ⟨_, by first | rfl | (simp [errW_none, errW_some] <;> rfl) | (simp [*, errW_none, errW_some] <;> rfl), by exact Kd.V_mono (Kd.V_far (p := ⟨gb259, 2, none⟩) (Kd.V_far (p := ⟨gb259, 1, none⟩) (Kd.V_far (p := ⟨gb259, 0, none⟩) (Kd.V_mono HO0_1.out (fun k_ hk => (⟨hk, hk.2⟩ : _ ∧ k_ ≠ gb259))) (fun _ hk => hk.2) (.int .i64 a0_0)) (fun _ hk => hk.2) (.slice A0_1 l0_1.length c0_1)) (fun _ hk => hk.2) (.bool a0_2)) (fun _ hk => hk.1.1.1), by repeat (first | (with_reducible first | exact HB.out | apply bL | apply bP | apply bD | refine bS ?_ GE258.out | refine bS ?_ GE259.out) | exact HB.out)⟩
   ·rw [if_neg c13] at H
    have c13b0 : decide ((l0_1.length : Int) < a1) = false := decide_eq_false c13; clear c13
    by_cases c21 : 0 ≤ a1
    ·rw [if_pos c21] at H
     have c21b0 := eq_true c21; have c21b1 : decide (0 ≤ a1) = true := decide_eq_true c21; clear c21
     by_cases c22 : a1 ≤ (l0_1.length : Int)
     ·rw [if_pos c22] at H
      have c22b0 := eq_true c22; have c22b1 : decide (a1 ≤ (l0_1.length : Int)) = true := decide_eq_true c22; clear c22; obtain ⟨y261, hy261⟩ : ∃ y_ : List (List Int), y_ = (l0_1.take (a1 : Int).toNat) := ⟨_, rfl⟩
      replace H : (some (a0_0, y261, false, 0)) = some (r1, r2, r3, r4) := by first | (rw [hy261]; with_reducible exact H) | (have H2_ := (Option.bind_some _ _).symm.trans H; rw [hy261]; with_reducible exact H2_) | (have H2_ := (Option.bind_some _ _).symm.trans H; with_reducible exact H2_) | with_reducible exact H | (rw [hy261]; exact H) | exact H
      have Ny261 := zA hy261; clear hy261
      simp only [Option.some.injEq, Prod.mk.injEq] at H
      obtain ⟨rfl, rfl, rfl, rfl⟩ := H
      go_enter Try.func42, Try.ntmps42
      try go_wp2_with (first | ((with_reducible refine gate_dst (N := 2) rfl ?_); (try (refine gate_guard (by rfl) ?_; dsimp only)); refine box_event ?hg (N := 2) ?hd (cs := #[.int .i64 a0_0, .slice A0_1 l0_1.length c0_1, .bool a0_2]) (t := 41) ?hr ?_; (case hd => rfl); (case hg => rfl); (case hr => first | (go_simp; done) | (go_simp; rfl)); intro gb258 hg w23 hbox hb; replace HO0_1 := zA (Kd.V_below (Kd.V_elderB HO0_1.out gb258 (Nat.le_of_eq hg.symm)) hb); have BK258 := zA (hbox); have GE258 := zA (gW HB.out hg); replace HB := zA (below_step HB.out hb); clear hb hbox hg) | ((with_reducible refine gate_dst (N := 4) rfl ?_); (try (refine gate_guard (by rfl) ?_; dsimp only)); refine box_event ?hg (N := 4) ?hd (cs := #[.int .i64 0, .slice none 0 0, .bool false]) (t := 41) ?hr ?_; (case hd => rfl); (case hg => rfl); (case hr => first | (go_simp; done) | (go_simp; rfl)); intro gb259 hg w24 hbox hb; replace HO0_1 := zA (Kd.V_below (Kd.V_elderB HO0_1.out gb259 (Nat.le_of_eq hg.symm)) hb); have BK259 := zA (hbox); have GE259 := zA (gW HB.out hg); replace HB := zA (below_step HB.out hb); have NB258_259 := zA (gL BK258.out hg); have NB259_258 := zA (gG BK258.out hg); replace BK258 := zA (bK BK258.out hb); clear hb hbox hg; have hnb25 := NB258_259.out; have hnc25 := NB259_258.out; obtain ⟨hcz26_0, hcz26_1, hcz26_2, hfz26_0, hfz26_1, hfz26_2⟩ := b6 BK258.out) | ((with_reducible refine gate_callee (f := 50) rfl ?_); refine goesL_ (some 8) rfl rfl Try.func50 (by kernel_rfl) rfl #[.agg #[.int .i64 a0_0, .slice A0_1 l0_1.length c0_1, .bool a0_2]] rfl (by (try simp only [List.map_toArray, List.map_cons, List.map_nil]); first | done | rfl | (simp only [List.length_drop, List.length_take]; rfl)) ?_; (with_reducible refine (reelkeeperref12_May.calls k a0_0 _ _ l0_1 a0_2 true _ ?side1 ?side2 A3.out).mono ?_); (case side1 => repeat (first | exact (Kd.V_reads' HO0_1.out).2.2 | (with_reducible refine Kd.C_alloc ?_ _) | (with_reducible refine Kd.C_drewN ?_ _) | (with_reducible refine Kd.C_drew ?_))); (case side2 => exact (Kd.V_reads' HO0_1.out).2.1); rintro e w27 ⟨rfl, hb⟩; refine ⟨_, rfl, ?_⟩; replace HO0_1 := zA (Kd.V_below HO0_1.out hb); replace BK258 := zA (bK BK258.out hb); replace BK259 := zA (bK BK259.out hb); replace HB := zA (below_step HB.out hb); (try clear hb); (try clear hb2); (try clear hk); (try clear hi); obtain ⟨hcz28_0, hcz28_1, hcz28_2, hfz28_0, hfz28_1, hfz28_2⟩ := b6 BK258.out))
      replace HO0_1 := zA (Kd.V_drew HO0_1.out); replace BK258 := zA (bW BK258.out); replace BK259 := zA (bW BK259.out); replace HB := zA (bD HB.out); have q30 : (a1 : Int) ≤ ((l0_1.length : Int) : Int) := of_decide_eq_true (by assumption); obtain ⟨i030, hi030, _, hsz30, _⟩ := info_parts info25; have hroom30 : l0_1.length ≤ c0_1 := (Kd.V_reads' HO0_1.out).2.1; have hC30 : Kd.F (Kd.slice 5 (Kd.int .u8)) _ _ A0_1 l0_1.length l0_1 := (Kd.V_at (base := w.heap.size) HO0_1.out).2.2; have hcut30 := cut_to (P := Try.prog) 39 25 .i64 Try.underlying39 hi030 A0_1 l0_1.length c0_1 a1 (of_decide_eq_true (by assumption)) q30 hroom30; have hr30 := Kd.F_take (m := (a1 : Int).toNat) hC30 (by omega); have hy30 : y261.length = (a1 : Int).toNat := (by rw [Ny261.out, List.length_take]; omega)
      rw [← Ny261.out] at hr30
      rw [← hy30] at hcut30
      have HO265 := zA (show Kd.V (Kd.slice 5 (Kd.int .u8)) 25 _ w.heap.size _ (.slice A0_1 y261.length c0_1) y261 from Kd.V_mk (by omega) hr30); have HC265 := zA (show y261.length ≤ c0_1 from by omega); clear hr30 hC30 hroom30 hi030 hsz30; have KY30 := zA hy30; clear hy30; replace q30 := eq_true q30; refine start_ (n := 9) (S := fun w' => w'.cell? ⟨gb258, 0, none⟩ = some (.int .i64 a0_0) ∧ w'.cell? ⟨gb258, 1, none⟩ = some (.slice A0_1 l0_1.length c0_1) ∧ w'.cell? ⟨gb258, 2, none⟩ = some (.bool a0_2)) (ds := []) (bs 9 0) (by kernel_rfl) rfl rfl ⟨(blk_cell BK258.out 0).trans rfl, (blk_cell BK258.out 1).trans rfl, (blk_cell BK258.out 2).trans rfl⟩ (fun hHeld => ?_); refine with_tabW reelkeeperref12_Cut.tab6 reelkeeperref12_Cut.bits6 (fun HT_ HW_ => ?_)
      generalize w27.drew = w29 at HO0_1 BK258 BK259 HB HO265 hHeld ⊢
      refine pure_ (i := 0) (N := some 22) (v := ?_) (a' := ?_) (bs 9 1) rfl rfl (any_of HT_.out (by kernel_rfl)) (fun _ _ _ h => h) (Or.inl ⟨by rfl, ?_⟩) ?_ ?_; rotate_left
      ·intro w'
       go_simp
       with_reducible rfl
      rotate_left
      ·simp only [Act.put, sA, sB, sC, i64_w, i32_w]
       rfl
      refine pure_ (i := 2) (N := some 24) (v := ?_) (a' := ?_) (bs 9 5) rfl rfl (any_of HT_.out (by kernel_rfl)) (fun _ _ _ h => h) (Or.inl ⟨by rfl, ?_⟩) ?_ ?_; rotate_left
      ·intro w'
       go_simp
       with_reducible rfl
      rotate_left
      ·simp only [Act.put, sA, sB, sC, i64_w, i32_w]
       rfl
      refine pure_ (i := 4) (N := some 26) (v := ?_) (a' := ?_) (bs 9 21) rfl rfl (any_of HT_.out (by kernel_rfl)) (fun _ _ _ h => h) (Or.inl ⟨by rfl, ?_⟩) ?_ ?_; rotate_left
      ·intro w'
       go_simp
       with_reducible rfl
      rotate_left
      ·simp only [Act.put, sA, sB, sC, i64_w, i32_w]
       rfl
      refine take_ (i := 1) (N := some 23) (v := ?_) (a' := ?_) (bs 9 23) rfl rfl (take_ofW HT_.out HW_.out (by kernel_rfl)) (fun _ _ _ h => h) (Or.inl ⟨by rfl, ?_⟩) hHeld ?_ ?_; rotate_left
      ·rintro w' ⟨s0, s1, s2⟩
       go_simp
       with_reducible rfl
      rotate_left
      ·simp only [Act.put, sA, sB, sC, i64_w, i32_w]
       rfl
      refine take_ (i := 3) (N := some 25) (v := ?_) (a' := ?_) (bs 9 31) rfl rfl (take_ofW HT_.out HW_.out (by kernel_rfl)) (fun _ _ _ h => h) (Or.inl ⟨by rfl, ?_⟩) hHeld ?_ ?_; rotate_left
      ·rintro w' ⟨s0, s1, s2⟩
       go_simp
       with_reducible rfl
      rotate_left
      ·simp only [Act.put, sA, sB, sC, i64_w, i32_w]
       rfl
      refine pure_ (i := 5) (N := some 27) (v := ?_) (a' := ?_) (bs 9 63) rfl rfl (any_of HT_.out (by kernel_rfl)) (fun _ _ _ h => h) (Or.inl ⟨by rfl, ?_⟩) ?_ ?_; rotate_left
      ·intro w'
       go_simp
       with_reducible rfl
      rotate_left
      ·simp only [Act.put, sA, sB, sC, i64_w, i32_w]
       rfl
      refine pure_ (i := 6) (N := some 28) (v := ?_) (a' := ?_) (bs 9 127) rfl rfl (any_of HT_.out (by kernel_rfl)) (fun _ _ _ h => h) (Or.inl ⟨by rfl, ?_⟩) ?_ ?_; rotate_left
      ·intro w'
       go_simp
       with_reducible rfl
      rotate_left
      ·simp only [Act.put, sA, sB, sC, i64_w, i32_w]
       rfl
      refine one_ (i := 7) (N := none) (bs 9 255) rfl rfl (one_of HT_.out (by kernel_rfl)) (by decide) (fun K hK => ?_); have hs31 : w29.cell? ⟨gb259, 0, none⟩ = some (.int .i64 0) := (blk_cell BK259.out 0).trans rfl; have hfs31 := blk_frozen BK259.out 0; have hns31_0 := NB258_259.out; have hms31_0 := NB259_258.out; have hs32 : w29.cell? ⟨gb259, 1, none⟩ = some (.slice none 0 0) := (blk_cell BK259.out 1).trans rfl; have hfs32 := blk_frozen BK259.out 1; have hns32_0 := NB258_259.out; have hms32_0 := NB259_258.out; have hs33 : w29.cell? ⟨gb259, 2, none⟩ = some (.bool false) := (blk_cell BK259.out 2).trans rfl; have hfs33 := blk_frozen BK259.out 2; have hns33_0 := NB258_259.out; have hms33_0 := NB259_258.out; refine skip_ (w1 := ?_) (by rfl) rfl ?_ ?_; rotate_left
      ·go_simp
       rfl
      refine hK.out _ _ ⟨((cell_far (p := ⟨gb259, _, none⟩) NB258_259.out _).trans (((cell_far (p := ⟨gb259, _, none⟩) NB258_259.out _).trans (((cell_far (p := ⟨gb259, _, none⟩) NB258_259.out _).trans (hHeld.1)))))), ((cell_far (p := ⟨gb259, _, none⟩) NB258_259.out _).trans (((cell_far (p := ⟨gb259, _, none⟩) NB258_259.out _).trans (((cell_far (p := ⟨gb259, _, none⟩) NB258_259.out _).trans (hHeld.2.1)))))), ((cell_far (p := ⟨gb259, _, none⟩) NB258_259.out _).trans (((cell_far (p := ⟨gb259, _, none⟩) NB258_259.out _).trans (((cell_far (p := ⟨gb259, _, none⟩) NB258_259.out _).trans (hHeld.2.2))))))⟩ (fun hHeld => ?_); clear hK K; refine pure_ (i := 8) (N := some 5) (v := ?_) (a' := ?_) (bs 9 511) rfl rfl (any_of HT_.out (by kernel_rfl)) (fun _ _ _ h => h) (Or.inl ⟨by rfl, ?_⟩) ?_ ?_; rotate_left
      ·intro w'
       go_simp
       with_reducible rfl
      rotate_left
      ·simp only [Act.put, sA, sB, sC, i64_w, i32_w]
       rfl
      refine done_ (done_of HT_.out (by kernel_rfl)) ?_
      try go_wp2
      refine bodyPost_ret (results_ct rfl _ _ gb259 41 #[.int .i64 a0_0, .slice A0_1 y261.length c0_1, .bool false] (0, 0) _ rfl (by refine blk_put (cs := #[.int .i64 a0_0, .slice A0_1 y261.length c0_1, .bool false]) ?_ 2 _ rfl; refine blk_put (cs := #[.int .i64 a0_0, .slice none 0 0, .bool false]) ?_ 1 _ rfl; refine blk_put (cs := #[.int .i64 0, .slice none 0 0, .bool false]) ?_ 0 _ rfl; exact BK259.out) Try.underlying41 rfl (by kernel_rfl)) rfl ?_; exact ⟨_, by first | rfl | (simp [errW_none, errW_some] <;> rfl) | (simp [*, errW_none, errW_some] <;> rfl), by exact Kd.V_mono (Kd.V_far (p := ⟨gb259, 2, none⟩) (Kd.V_far (p := ⟨gb259, 1, none⟩) (Kd.V_far (p := ⟨gb259, 0, none⟩) (Kd.V_mono HO265.out (fun k_ hk => (⟨hk, hk.2⟩ : _ ∧ k_ ≠ gb259))) (fun _ hk => hk.2) (.int .i64 a0_0)) (fun _ hk => hk.2) (.slice A0_1 y261.length c0_1)) (fun _ hk => hk.2) (.bool false)) (fun _ hk => hk.1.1.1), by repeat (first | (with_reducible first | exact HB.out | apply bL | apply bP | apply bD | refine bS ?_ GE258.out | refine bS ?_ GE259.out) | exact HB.out)⟩
     ·rw [if_neg c22] at H
      exact absurd H (by simp)
    ·rw [if_neg c21] at H
     exact absurd H (by simp)
 ·replace c4 := Bool.eq_false_iff.mpr c4
  subst c4
  have H1 : (some (a0_0, l0_1, a0_2, 1)) = some (r1, r2, r3, r4) := by rw [if_neg (show ¬ (false = true) by decide)] at H; exact H
  clear H; have H := H1; clear H1
  simp only [Option.some.injEq, Prod.mk.injEq] at H
  obtain ⟨rfl, rfl, rfl, rfl⟩ := H
  go_enter Try.func42, Try.ntmps42
  go_wp2_with (first | ((with_reducible refine gate_dst (N := 2) rfl ?_); (try (refine gate_guard (by rfl) ?_; dsimp only)); refine box_event ?hg (N := 2) ?hd (cs := #[.int .i64 a0_0, .slice A0_1 l0_1.length c0_1, .bool a0_2]) (t := 41) ?hr ?_; (case hd => rfl); (case hg => rfl); (case hr => first | (go_simp; done) | (go_simp; rfl)); intro gb258 hg w34 hbox hb; replace HO0_1 := zA (Kd.V_below (Kd.V_elderB HO0_1.out gb258 (Nat.le_of_eq hg.symm)) hb); have BK258 := zA (hbox); have GE258 := zA (gW HB.out hg); replace HB := zA (below_step HB.out hb); clear hb hbox hg) | ((with_reducible refine gate_dst (N := 4) rfl ?_); (try (refine gate_guard (by rfl) ?_; dsimp only)); refine box_event ?hg (N := 4) ?hd (cs := #[.int .i64 0, .slice none 0 0, .bool false]) (t := 41) ?hr ?_; (case hd => rfl); (case hg => rfl); (case hr => first | (go_simp; done) | (go_simp; rfl)); intro gb259 hg w35 hbox hb; replace HO0_1 := zA (Kd.V_below (Kd.V_elderB HO0_1.out gb259 (Nat.le_of_eq hg.symm)) hb); have BK259 := zA (hbox); have GE259 := zA (gW HB.out hg); replace HB := zA (below_step HB.out hb); have NB258_259 := zA (gL BK258.out hg); have NB259_258 := zA (gG BK258.out hg); replace BK258 := zA (bK BK258.out hb); clear hb hbox hg; have hnb36 := NB258_259.out; have hnc36 := NB259_258.out; obtain ⟨hcz37_0, hcz37_1, hcz37_2, hfz37_0, hfz37_1, hfz37_2⟩ := b6 BK258.out) | ((with_reducible refine gate_callee (f := 50) rfl ?_); refine goesL_ (some 8) rfl rfl Try.func50 (by kernel_rfl) rfl #[.agg #[.int .i64 a0_0, .slice A0_1 l0_1.length c0_1, .bool a0_2]] rfl (by (try simp only [List.map_toArray, List.map_cons, List.map_nil]); first | done | rfl | (simp only [List.length_drop, List.length_take]; rfl)) ?_; (with_reducible refine (reelkeeperref12_May.calls k a0_0 _ _ l0_1 a0_2 false _ ?side1 ?side2 A3.out).mono ?_); (case side1 => repeat (first | exact (Kd.V_reads' HO0_1.out).2.2 | (with_reducible refine Kd.C_alloc ?_ _) | (with_reducible refine Kd.C_drewN ?_ _) | (with_reducible refine Kd.C_drew ?_))); (case side2 => exact (Kd.V_reads' HO0_1.out).2.1); rintro e w38 ⟨rfl, hb⟩; refine ⟨_, rfl, ?_⟩; replace HO0_1 := zA (Kd.V_below HO0_1.out hb); replace BK258 := zA (bK BK258.out hb); replace BK259 := zA (bK BK259.out hb); replace HB := zA (below_step HB.out hb); (try clear hb); (try clear hb2); (try clear hk); (try clear hi); obtain ⟨hcz39_0, hcz39_1, hcz39_2, hfz39_0, hfz39_1, hfz39_2⟩ := b6 BK258.out; obtain ⟨hcz40_0, hcz40_1, hcz40_2, hfz40_0, hfz40_1, hfz40_2⟩ := b6 BK259.out))
  refine bodyPost_ret (results_ct rfl _ _ gb259 41 #[.int .i64 a0_0, .slice A0_1 l0_1.length c0_1, .bool a0_2] (0, 0) _ rfl (by refine blk_put (cs := #[.int .i64 a0_0, .slice A0_1 l0_1.length c0_1, .bool false]) ?_ 2 _ rfl; refine blk_put (cs := #[.int .i64 a0_0, .slice none 0 0, .bool false]) ?_ 1 _ rfl; refine blk_put (cs := #[.int .i64 0, .slice none 0 0, .bool false]) ?_ 0 _ rfl; exact BK259.out) Try.underlying41 rfl (by kernel_rfl)) rfl ?_; exact ⟨_, by first | rfl | (simp [errW_none, errW_some] <;> rfl) | (simp [*, errW_none, errW_some] <;> rfl), by exact Kd.V_mono (Kd.V_far (p := ⟨gb259, 2, none⟩) (Kd.V_far (p := ⟨gb259, 1, none⟩) (Kd.V_far (p := ⟨gb259, 0, none⟩) (Kd.V_mono HO0_1.out (fun k_ hk => (⟨hk, hk.2⟩ : _ ∧ k_ ≠ gb259))) (fun _ hk => hk.2) (.int .i64 a0_0)) (fun _ hk => hk.2) (.slice A0_1 l0_1.length c0_1)) (fun _ hk => hk.2) (.bool a0_2)) (fun _ hk => hk.1.1.1), by repeat (first | (with_reducible first | exact HB.out | apply bL | apply bP | apply bD | refine bS ?_ GE258.out | refine bS ?_ GE259.out) | exact HB.out)⟩

end Go.Proofs.Ytpbfeegfkiegeaa.M
