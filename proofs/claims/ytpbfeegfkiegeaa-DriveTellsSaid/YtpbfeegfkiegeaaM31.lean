/- Part of a claim: what some functions of the program compute, each with its contract; no condition of its own. Written by a program of this workplace (gen.py, over the print of the kit) and by hand. -/
import Derived.Test.YtpbfeegfkiegeaaM0
import Derived.Test.YtpbfeegfkiegeaaM9
import Derived.Test.YtpbfeegfkiegeaaM22
namespace Go.Proofs.Ytpbfeegfkiegeaa.M
open Go.RowKit Go.Proofs.YtpbfeegfkiegeaaW.PrintWords Go.Proofs.YtpbfeegfkiegeaaW.PrintLast Go.Proofs.YtpbfeegfkiegeaaW.PrintMore
attribute [local go_sem] max2_int min2_int max_two min_two max_three min_three max_four min_four   -- for this text's walks alone
set_option linter.unusedVariables false
set_option linter.unusedSimpArgs false

def reelkeeperref12_Read.f (k : Nat) (a0_0 : Int) (l0_1 : List (List Int)) (a0_2 : Bool) (a1 : Int) : Option (List Int × Int) := (reelkeeperref12_May.f k a0_0 l0_1 a0_2).bind fun t336 => (if t336 = true then (if a1 < 0 then (some (([] : List Int), 9)) else (if a1 ≥ (l0_1.length : Int) then (some (([] : List Int), 8)) else (if 0 ≤ a1 then (if a1 < (l0_1.length : Int) then (some (rd_L1 l0_1 a1, 0)) else (none)) else (none)))) else (some (([] : List Int), 1)))
theorem reelkeeperref12_Read.mono : ∀ a0 a1 a2 a3 k, LeO (reelkeeperref12_Read.f k a0 a1 a2 a3) (reelkeeperref12_Read.f (k + 1) a0 a1 a2 a3) := by
  intro a0 a1 a2 a3 k
  unfold reelkeeperref12_Read.f
  repeat' first
      | (with_reducible exact reelkeeperref12_May.mono _ _ _ _)
      | (with_reducible exact LeO.refl _)
      | (with_reducible exact LeO.none _)
      | (with_reducible refine LeO.ite ?_ ?_)
      | (with_reducible refine LeO.bind ?_ (fun _ => ?_))
      | exact reelkeeperref12_May.mono _ _ _ _
      | exact LeO.none _
      | refine LeO.ite ?_ ?_
      | refine LeO.bind ?_ (fun _ => ?_)
set_option maxHeartbeats 8000000 in
set_option maxRecDepth 100000 in
theorem reelkeeperref12_Read.calls (k : Nat) (a0_0 : Int) (P0_1_ : Nat → Prop) (A0_1 : Option Addr) (c0_1 : Nat) (l0_1 : List (List Int)) (a0_2 : Bool) (a1 : Int) (r1 : List Int) (r2 : Int) (w : World) (hs0_1 : Kd.V (Kd.slice 5 (Kd.int .u8)) 25 w w.heap.size (fun k_ => P0_1_ k_) (.slice A0_1 l0_1.length c0_1) l0_1) (h : reelkeeperref12_Read.f k a0_0 l0_1 a0_2 a1 = some (r1, r2)) :
  Calls Try.prog 48 #[.agg #[.int .i64 a0_0, .slice A0_1 l0_1.length c0_1, .bool a0_2], .int .i64 a1] w fun e w' => ∃ v0_ : Value, e = .returned (.tuple #[v0_, .int .i64 r2]) ∧ Kd.V (Kd.int .u8) 5 w' w.heap.size (fun k_ => (P0_1_ k_ ∨ w.heap.size ≤ k_)) v0_ r1 ∧ Below w.heap.size w w' := by
 have hu41 := Try.underlying41; have HO0_1 := zA (show Kd.V (Kd.slice 5 (Kd.int .u8)) 25 w w.heap.size (fun k_ => (P0_1_ k_ ∨ w.heap.size ≤ k_)) (.slice A0_1 l0_1.length c0_1) l0_1 from Kd.V_mono hs0_1 (fun k_ hk => .inl hk)); have HB := zA (Below.refl w.heap.size w); have H : ((reelkeeperref12_May.f k a0_0 l0_1 a0_2).bind fun t336 => (if t336 = true then (if a1 < 0 then (some (([] : List Int), 9)) else (if a1 ≥ (l0_1.length : Int) then (some (([] : List Int), 8)) else (if 0 ≤ a1 then (if a1 < (l0_1.length : Int) then (some (rd_L1 l0_1 a1, 0)) else (none)) else (none)))) else (some (([] : List Int), 1)))) = some (r1, r2) := h; clear h; replace H := Option.bind_eq_some_iff.mp H; obtain ⟨t336, A30, H⟩ := H; replace H : (if t336 = true then (if a1 < 0 then (some (([] : List Int), 9)) else (if a1 ≥ (l0_1.length : Int) then (some (([] : List Int), 8)) else (if 0 ≤ a1 then (if a1 < (l0_1.length : Int) then (some (rd_L1 l0_1 a1, 0)) else (none)) else (none)))) else (some (([] : List Int), 1))) = some (r1, r2) := H; have A3 := zA A30; clear A30
 by_cases c4 : t336 = true
 ·subst c4
  have H1 : (if a1 < 0 then (some (([] : List Int), 9)) else (if a1 ≥ (l0_1.length : Int) then (some (([] : List Int), 8)) else (if 0 ≤ a1 then (if a1 < (l0_1.length : Int) then (some (rd_L1 l0_1 a1, 0)) else (none)) else (none)))) = some (r1, r2) := by rw [if_pos rfl] at H; exact H
  clear H; have H := H1; clear H1
  by_cases c5 : a1 < 0
  ·rw [if_pos c5] at H
   have c5b0 : decide (a1 < 0) = true := decide_eq_true c5; clear c5
   simp only [Option.some.injEq, Prod.mk.injEq] at H
   obtain ⟨rfl, rfl⟩ := H
   go_enter Try.func48, Try.ntmps48
   go_wp2_with (first | ((with_reducible refine gate_dst (N := 2) rfl ?_); refine box_event ?hg (N := 2) ?hd (cs := #[.int .i64 a0_0, .slice A0_1 l0_1.length c0_1, .bool a0_2]) (t := 41) ?hr ?_; (case hd => rfl); (case hg => rfl); (case hr => first | (go_simp; done) | (go_simp; rfl)); intro gb335 hg w6 hbox hb; replace HO0_1 := zA (Kd.V_below (Kd.V_elderB HO0_1.out gb335 (Nat.le_of_eq hg.symm)) hb); have BK335 := zA (hbox); have GE335 := zA (gW HB.out hg); replace HB := zA (below_step HB.out hb); clear hb hbox hg; obtain ⟨hcz7_0, hcz7_1, hcz7_2, hfz7_0, hfz7_1, hfz7_2⟩ := b6 BK335.out) | ((with_reducible refine gate_callee (f := 50) rfl ?_); refine goesL_ (some 8) rfl rfl Try.func50 (by kernel_rfl) rfl #[.agg #[.int .i64 a0_0, .slice A0_1 l0_1.length c0_1, .bool a0_2]] rfl (by (try simp only [List.map_toArray, List.map_cons, List.map_nil]); first | done | rfl | (simp only [List.length_drop, List.length_take]; rfl)) ?_; (with_reducible refine (reelkeeperref12_May.calls k a0_0 _ _ l0_1 a0_2 true _ ?side1 ?side2 A3.out).mono ?_); (case side1 => repeat (first | exact (Kd.V_reads' HO0_1.out).2.2 | (with_reducible refine Kd.C_alloc ?_ _) | (with_reducible refine Kd.C_drewN ?_ _) | (with_reducible refine Kd.C_drew ?_))); (case side2 => exact (Kd.V_reads' HO0_1.out).2.1); rintro e w8 ⟨rfl, hb⟩; refine ⟨_, rfl, ?_⟩; replace HO0_1 := zA (Kd.V_below HO0_1.out hb); replace BK335 := zA (bK BK335.out hb); replace HB := zA (below_step HB.out hb); (try clear hb); (try clear hb2); (try clear hk); (try clear hi)))
   go_ret2
   exact ⟨_, by first | rfl | (simp [errW_none, errW_some] <;> rfl) | (simp [*, errW_none, errW_some] <;> rfl), Kd.V_nil _ _ _ _ _, by repeat (first | (with_reducible first | exact HB.out | apply bL | apply bP | apply bD | refine bS ?_ GE335.out) | exact HB.out)⟩
  ·rw [if_neg c5] at H
   have c5b0 : decide (a1 < 0) = false := decide_eq_false c5; clear c5
   by_cases c9 : a1 ≥ (l0_1.length : Int)
   ·rw [if_pos c9] at H
    have c9b0 : decide ((l0_1.length : Int) ≤ a1) = true := decide_eq_true c9; clear c9
    simp only [Option.some.injEq, Prod.mk.injEq] at H
    obtain ⟨rfl, rfl⟩ := H
    go_enter Try.func48, Try.ntmps48
    go_wp2_with (first | ((with_reducible refine gate_dst (N := 2) rfl ?_); refine box_event ?hg (N := 2) ?hd (cs := #[.int .i64 a0_0, .slice A0_1 l0_1.length c0_1, .bool a0_2]) (t := 41) ?hr ?_; (case hd => rfl); (case hg => rfl); (case hr => first | (go_simp; done) | (go_simp; rfl)); intro gb335 hg w10 hbox hb; replace HO0_1 := zA (Kd.V_below (Kd.V_elderB HO0_1.out gb335 (Nat.le_of_eq hg.symm)) hb); have BK335 := zA (hbox); have GE335 := zA (gW HB.out hg); replace HB := zA (below_step HB.out hb); clear hb hbox hg; obtain ⟨hcz11_0, hcz11_1, hcz11_2, hfz11_0, hfz11_1, hfz11_2⟩ := b6 BK335.out) | ((with_reducible refine gate_callee (f := 50) rfl ?_); refine goesL_ (some 8) rfl rfl Try.func50 (by kernel_rfl) rfl #[.agg #[.int .i64 a0_0, .slice A0_1 l0_1.length c0_1, .bool a0_2]] rfl (by (try simp only [List.map_toArray, List.map_cons, List.map_nil]); first | done | rfl | (simp only [List.length_drop, List.length_take]; rfl)) ?_; (with_reducible refine (reelkeeperref12_May.calls k a0_0 _ _ l0_1 a0_2 true _ ?side1 ?side2 A3.out).mono ?_); (case side1 => repeat (first | exact (Kd.V_reads' HO0_1.out).2.2 | (with_reducible refine Kd.C_alloc ?_ _) | (with_reducible refine Kd.C_drewN ?_ _) | (with_reducible refine Kd.C_drew ?_))); (case side2 => exact (Kd.V_reads' HO0_1.out).2.1); rintro e w12 ⟨rfl, hb⟩; refine ⟨_, rfl, ?_⟩; replace HO0_1 := zA (Kd.V_below HO0_1.out hb); replace BK335 := zA (bK BK335.out hb); replace HB := zA (below_step HB.out hb); (try clear hb); (try clear hb2); (try clear hk); (try clear hi); obtain ⟨hcz13_0, hcz13_1, hcz13_2, hfz13_0, hfz13_1, hfz13_2⟩ := b6 BK335.out))
    go_ret2
    exact ⟨_, by first | rfl | (simp [errW_none, errW_some] <;> rfl) | (simp [*, errW_none, errW_some] <;> rfl), Kd.V_nil _ _ _ _ _, by repeat (first | (with_reducible first | exact HB.out | apply bL | apply bP | apply bD | refine bS ?_ GE335.out) | exact HB.out)⟩
   ·rw [if_neg c9] at H
    have c9b0 : decide ((l0_1.length : Int) ≤ a1) = false := decide_eq_false c9; clear c9
    by_cases c14 : 0 ≤ a1
    ·rw [if_pos c14] at H
     have c14b0 : decide (0 ≤ a1) = true := decide_eq_true c14; clear c14
     by_cases c15 : a1 < (l0_1.length : Int)
     ·rw [if_pos c15] at H
      have c15b0 : decide (a1 < (l0_1.length : Int)) = true := decide_eq_true c15; clear c15
      simp only [Option.some.injEq, Prod.mk.injEq] at H
      obtain ⟨rfl, rfl⟩ := H
      go_enter Try.func48, Try.ntmps48
      go_wp2_with (first | ((with_reducible refine gate_dst (N := 2) rfl ?_); refine box_event ?hg (N := 2) ?hd (cs := #[.int .i64 a0_0, .slice A0_1 l0_1.length c0_1, .bool a0_2]) (t := 41) ?hr ?_; (case hd => rfl); (case hg => rfl); (case hr => first | (go_simp; done) | (go_simp; rfl)); intro gb335 hg w16 hbox hb; replace HO0_1 := zA (Kd.V_below (Kd.V_elderB HO0_1.out gb335 (Nat.le_of_eq hg.symm)) hb); have BK335 := zA (hbox); have GE335 := zA (gW HB.out hg); replace HB := zA (below_step HB.out hb); clear hb hbox hg; obtain ⟨hcz17_0, hcz17_1, hcz17_2, hfz17_0, hfz17_1, hfz17_2⟩ := b6 BK335.out) | ((with_reducible refine gate_callee (f := 50) rfl ?_); refine goesL_ (some 8) rfl rfl Try.func50 (by kernel_rfl) rfl #[.agg #[.int .i64 a0_0, .slice A0_1 l0_1.length c0_1, .bool a0_2]] rfl (by (try simp only [List.map_toArray, List.map_cons, List.map_nil]); first | done | rfl | (simp only [List.length_drop, List.length_take]; rfl)) ?_; (with_reducible refine (reelkeeperref12_May.calls k a0_0 _ _ l0_1 a0_2 true _ ?side1 ?side2 A3.out).mono ?_); (case side1 => repeat (first | exact (Kd.V_reads' HO0_1.out).2.2 | (with_reducible refine Kd.C_alloc ?_ _) | (with_reducible refine Kd.C_drewN ?_ _) | (with_reducible refine Kd.C_drew ?_))); (case side2 => exact (Kd.V_reads' HO0_1.out).2.1); rintro e w18 ⟨rfl, hb⟩; refine ⟨_, rfl, ?_⟩; replace HO0_1 := zA (Kd.V_below HO0_1.out hb); replace BK335 := zA (bK BK335.out hb); replace HB := zA (below_step HB.out hb); (try clear hb); (try clear hb2); (try clear hk); (try clear hi); obtain ⟨hcz19_0, hcz19_1, hcz19_2, hfz19_0, hfz19_1, hfz19_2⟩ := b6 BK335.out; have p337 : 0 ≤ (a1 : Int) := of_decide_eq_true (by assumption); have q337 : a1 < (l0_1.length : Int) := of_decide_eq_true (by assumption); obtain ⟨ad337, A337_0, c337_0, e337, hx337_0, hl337_0, hi337_0⟩ := at_L1 (Kd.V_reads' HO0_1.out).2.2 a1 p337 q337; cases e337; obtain ⟨ce337, hce337, hMe337, hcc337⟩ := Kd.V_get HO0_1.out [] a1 p337 (by first | exact q337 | exact of_decide_eq_true (by assumption) | (have e_ := (Kd.V_reads' HO0_1.out).1; omega)); obtain ⟨ua337_0, uc337_0, rfl, ul337_0, ge337_0⟩ := Kd.FK_slice_open hMe337; have hv337_0 := hcc337 0 _ rfl; rw [Nat.add_zero, show ((Kd.slice 5 (Kd.int .u8))).sz = 1 from rfl, Nat.mul_one] at hv337_0; replace hv337_0 := Option.some.inj (hv337_0.symm.trans hx337_0); injection hv337_0 with hva_ hvn_ hvc_; rw [hva_] at ge337_0; rw [hvc_] at ul337_0; have HL337_0 := zA (show Kd.V (Kd.int .u8) 5 _ w.heap.size _ _ (rd_L1 l0_1 a1) from Kd.V_mk ul337_0 ge337_0); clear hva_ hvn_ hvc_ ge337_0 ul337_0; clear hcc337 hce337; have HR337_0 := zA hi337_0; have HC337_0 := zA hl337_0; clear hi337_0 hl337_0; replace p337 := eq_true p337; replace q337 := eq_true q337))
      go_ret2
      exact ⟨_, by first | rfl | (simp [errW_none, errW_some] <;> rfl) | (simp [*, errW_none, errW_some] <;> rfl), by exact Kd.V_mono HL337_0.out (fun _ hk => hk.1), by repeat (first | (with_reducible first | exact HB.out | apply bL | apply bP | apply bD | refine bS ?_ GE335.out) | exact HB.out)⟩
     ·rw [if_neg c15] at H
      exact absurd H (by simp)
    ·rw [if_neg c14] at H
     exact absurd H (by simp)
 ·replace c4 := Bool.eq_false_iff.mpr c4
  subst c4
  have H1 : (some (([] : List Int), 1)) = some (r1, r2) := by rw [if_neg (show ¬ (false = true) by decide)] at H; exact H
  clear H; have H := H1; clear H1
  simp only [Option.some.injEq, Prod.mk.injEq] at H
  obtain ⟨rfl, rfl⟩ := H
  go_enter Try.func48, Try.ntmps48
  go_wp2_with (first | ((with_reducible refine gate_dst (N := 2) rfl ?_); refine box_event ?hg (N := 2) ?hd (cs := #[.int .i64 a0_0, .slice A0_1 l0_1.length c0_1, .bool a0_2]) (t := 41) ?hr ?_; (case hd => rfl); (case hg => rfl); (case hr => first | (go_simp; done) | (go_simp; rfl)); intro gb335 hg w20 hbox hb; replace HO0_1 := zA (Kd.V_below (Kd.V_elderB HO0_1.out gb335 (Nat.le_of_eq hg.symm)) hb); have BK335 := zA (hbox); have GE335 := zA (gW HB.out hg); replace HB := zA (below_step HB.out hb); clear hb hbox hg; obtain ⟨hcz21_0, hcz21_1, hcz21_2, hfz21_0, hfz21_1, hfz21_2⟩ := b6 BK335.out) | ((with_reducible refine gate_callee (f := 50) rfl ?_); refine goesL_ (some 8) rfl rfl Try.func50 (by kernel_rfl) rfl #[.agg #[.int .i64 a0_0, .slice A0_1 l0_1.length c0_1, .bool a0_2]] rfl (by (try simp only [List.map_toArray, List.map_cons, List.map_nil]); first | done | rfl | (simp only [List.length_drop, List.length_take]; rfl)) ?_; (with_reducible refine (reelkeeperref12_May.calls k a0_0 _ _ l0_1 a0_2 false _ ?side1 ?side2 A3.out).mono ?_); (case side1 => repeat (first | exact (Kd.V_reads' HO0_1.out).2.2 | (with_reducible refine Kd.C_alloc ?_ _) | (with_reducible refine Kd.C_drewN ?_ _) | (with_reducible refine Kd.C_drew ?_))); (case side2 => exact (Kd.V_reads' HO0_1.out).2.1); rintro e w22 ⟨rfl, hb⟩; refine ⟨_, rfl, ?_⟩; replace HB := zA (below_step HB.out hb); (try clear hb); (try clear hb2); (try clear hk); (try clear hi)))
  go_ret2
  exact ⟨_, by first | rfl | (simp [errW_none, errW_some] <;> rfl) | (simp [*, errW_none, errW_some] <;> rfl), Kd.V_nil _ _ _ _ _, by repeat (first | (with_reducible first | exact HB.out | apply bL | apply bP | apply bD | refine bS ?_ GE335.out) | exact HB.out)⟩

end Go.Proofs.Ytpbfeegfkiegeaa.M
