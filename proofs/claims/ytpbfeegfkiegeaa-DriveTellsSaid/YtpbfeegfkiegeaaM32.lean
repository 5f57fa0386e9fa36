/- Part of a claim: what some functions of the program compute, each with its contract; no condition of its own. Written by a program of this workplace (gen.py, over the print of the kit) and by hand. -/
import Derived.Test.YtpbfeegfkiegeaaM0
import Derived.Test.YtpbfeegfkiegeaaM9
import Derived.Test.YtpbfeegfkiegeaaM24
import Derived.Test.YtpbfeegfkiegeaaM31
namespace Go.Proofs.Ytpbfeegfkiegeaa.M
open Go.RowKit Go.Proofs.YtpbfeegfkiegeaaW.PrintWords Go.Proofs.YtpbfeegfkiegeaaW.PrintLast Go.Proofs.YtpbfeegfkiegeaaW.PrintMore
attribute [local go_sem] max2_int min2_int max_two min_two max_three min_three max_four min_four   -- for this text's walks alone
set_option linter.unusedVariables false
set_option linter.unusedSimpArgs false

def reelkeeperref13_Read.f (k : Nat) (l0_0 : List (S41)) (a0_1 : Int) (a0_2 : Int) : Option ((List (S41)) × Int × Int × List Int × Int) := (reelkeeperref13_mounted.f k l0_0 a0_1 a0_2).bind fun t340 => (if t340 = 0 then (if 0 ≤ a0_1 then (if a0_1 < (l0_0.length : Int) then ((reelkeeperref12_Read.f k ((rd_T41 l0_0 a0_1).f0) ((rd_T41 l0_0 a0_1).f1) ((rd_T41 l0_0 a0_1).f2) a0_2).bind fun bt342 => (if bt342.2 = 0 then (some (l0_0, a0_1, wrap64 (a0_2 + 1), bt342.1, 0)) else (some (l0_0, a0_1, a0_2, ([] : List Int), bt342.2)))) else (none)) else (none)) else (some (l0_0, a0_1, a0_2, ([] : List Int), t340)))
theorem reelkeeperref13_Read.mono : ∀ a0 a1 a2 k, LeO (reelkeeperref13_Read.f k a0 a1 a2) (reelkeeperref13_Read.f (k + 1) a0 a1 a2) := by
  intro a0 a1 a2 k
  unfold reelkeeperref13_Read.f
  repeat' first
      | (with_reducible exact reelkeeperref12_Read.mono _ _ _ _ _)
      | (with_reducible exact reelkeeperref13_mounted.mono _ _ _ _)
      | (with_reducible exact LeO.refl _)
      | (with_reducible exact LeO.none _)
      | (with_reducible refine LeO.ite ?_ ?_)
      | (with_reducible refine LeO.bind ?_ (fun _ => ?_))
      | exact reelkeeperref12_Read.mono _ _ _ _ _
      | exact reelkeeperref13_mounted.mono _ _ _ _
      | exact LeO.none _
      | refine LeO.ite ?_ ?_
      | refine LeO.bind ?_ (fun _ => ?_)
def reelkeeperref13_Read.T4 : Bool × List (List Nat × List Nat) := (true, [([], []), ([0], [0]), ([], []), ([2], [2]), ([1, 3], [1, 3]), ([4], [4]), ([], []), ([6], [6]), ([5, 7], [5, 7]), ([8], [8]), ([9], [9]), ([9], [9]), ([10, 8, 0, 1, 2, 3, 4, 5, 6, 7, 8, 9, 10], [10]), ([11, 12, 0, 1, 2, 3, 4, 5, 6, 7, 8, 9, 10, 11, 12], [11])])
def reelkeeperref13_Read.B4 : List Nat := [0, 1, 0, 4, 15, 31, 0, 64, 255, 511, 1023, 1023, 2047, 8191]
theorem reelkeeperref13_Read.tab4 : rtab .any (opsOf Try.f22 4) = reelkeeperref13_Read.T4 := by kernel_rfl
theorem reelkeeperref13_Read.bits4 : waitsOk reelkeeperref13_Read.T4.2 reelkeeperref13_Read.B4 = true := by kernel_rfl
set_option maxHeartbeats 8000000 in
set_option maxRecDepth 100000 in
theorem reelkeeperref13_Read.calls (k : Nat) (P0_0_ : Nat → Prop) (A0_0 : Option Addr) (c0_0 : Nat) (l0_0 : List (S41)) (a0_1 : Int) (a0_2 : Int) (r1 : List (S41)) (r2 : Int) (r3 : Int) (r4 : List Int) (r5 : Int) (w : World) (hs0_0 : Kd.V k41 41 w w.heap.size (fun k_ => P0_0_ k_) (.slice A0_0 l0_0.length c0_0) l0_0) (h : reelkeeperref13_Read.f k l0_0 a0_1 a0_2 = some (r1, r2, r3, r4, r5)) :
  Calls Try.prog 22 #[.agg #[.slice A0_0 l0_0.length c0_0, .int .i64 a0_1, .int .i64 a0_2]] w fun e w' => ∃ v0_ v3_ : Value, e = .returned (.tuple #[.agg #[v0_, .int .i64 r2, .int .i64 r3], v3_, .int .i64 r5]) ∧ Kd.V k41 41 w' w.heap.size (fun k_ => (P0_0_ k_ ∨ w.heap.size ≤ k_)) v0_ r1 ∧ Kd.V (Kd.int .u8) 5 w' w.heap.size (fun k_ => (P0_0_ k_ ∨ w.heap.size ≤ k_)) v3_ r4 ∧ Below w.heap.size w w' := by
 have hu24 := Try.underlying24; have hu41 := Try.underlying41; have HO0_0 := zA (show Kd.V k41 41 w w.heap.size (fun k_ => (P0_0_ k_ ∨ w.heap.size ≤ k_)) (.slice A0_0 l0_0.length c0_0) l0_0 from Kd.V_mono hs0_0 (fun k_ hk => .inl hk)); have HB := zA (Below.refl w.heap.size w); have H : ((reelkeeperref13_mounted.f k l0_0 a0_1 a0_2).bind fun t340 => (if t340 = 0 then (if 0 ≤ a0_1 then (if a0_1 < (l0_0.length : Int) then ((reelkeeperref12_Read.f k ((rd_T41 l0_0 a0_1).f0) ((rd_T41 l0_0 a0_1).f1) ((rd_T41 l0_0 a0_1).f2) a0_2).bind fun bt342 => (if bt342.2 = 0 then (some (l0_0, a0_1, wrap64 (a0_2 + 1), bt342.1, 0)) else (some (l0_0, a0_1, a0_2, ([] : List Int), bt342.2)))) else (none)) else (none)) else (some (l0_0, a0_1, a0_2, ([] : List Int), t340)))) = some (r1, r2, r3, r4, r5) := h; clear h; replace H := Option.bind_eq_some_iff.mp H; obtain ⟨t340, A20, H⟩ := H; replace H : (if t340 = 0 then (if 0 ≤ a0_1 then (if a0_1 < (l0_0.length : Int) then ((reelkeeperref12_Read.f k ((rd_T41 l0_0 a0_1).f0) ((rd_T41 l0_0 a0_1).f1) ((rd_T41 l0_0 a0_1).f2) a0_2).bind fun bt342 => (if bt342.2 = 0 then (some (l0_0, a0_1, wrap64 (a0_2 + 1), bt342.1, 0)) else (some (l0_0, a0_1, a0_2, ([] : List Int), bt342.2)))) else (none)) else (none)) else (some (l0_0, a0_1, a0_2, ([] : List Int), t340))) = some (r1, r2, r3, r4, r5) := H; have A2 := zA A20; clear A20
 by_cases c3 : t340 = 0
 ·rw [if_pos c3] at H
  have c3b0 : (t340 == 0) = true := beq_iff_eq.mpr c3; have c3b1 : (t340 != 0) = false := bne_eq_false_iff_eq.mpr c3; clear c3
  by_cases c4 : 0 ≤ a0_1
  ·rw [if_pos c4] at H
   have c4b0 : decide (0 ≤ a0_1) = true := decide_eq_true c4; clear c4
   by_cases c5 : a0_1 < (l0_0.length : Int)
   ·rw [if_pos c5] at H
    have c5b0 : decide (a0_1 < (l0_0.length : Int)) = true := decide_eq_true c5; clear c5; replace H := Option.bind_eq_some_iff.mp H; obtain ⟨⟨t342, t345⟩, A60, H⟩ := H; replace H : (if t345 = 0 then (some (l0_0, a0_1, wrap64 (a0_2 + 1), t342, 0)) else (some (l0_0, a0_1, a0_2, ([] : List Int), t345))) = some (r1, r2, r3, r4, r5) := H; have A6 := zA A60; clear A60
    by_cases c7 : t345 = 0
    ·rw [if_pos c7] at H
     have c7b0 : (t345 == 0) = true := beq_iff_eq.mpr c7; have c7b1 : (t345 != 0) = false := bne_eq_false_iff_eq.mpr c7; clear c7
     simp only [Option.some.injEq, Prod.mk.injEq] at H
     obtain ⟨rfl, rfl, rfl, rfl, rfl⟩ := H
     go_enter Try.func22, Try.ntmps22
     try go_wp2_with (first | ((with_reducible refine gate_dst (N := 1) rfl ?_); refine box_event ?hg (N := 1) ?hd (cs := #[.slice A0_0 l0_0.length c0_0, .int .i64 a0_1, .int .i64 a0_2]) (t := 24) ?hr ?_; (case hd => rfl); (case hg => rfl); (case hr => first | (go_simp; done) | (go_simp; rfl)); intro gb338 hg w8 hbox hb; replace HO0_0 := zA (Kd.V_below (Kd.V_elderB HO0_0.out gb338 (Nat.le_of_eq hg.symm)) hb); have BK338 := zA (hbox); have GE338 := zA (gW HB.out hg); replace HB := zA (below_step HB.out hb); clear hb hbox hg) | ((with_reducible refine gate_dst (N := 2) rfl ?_); refine box_event ?hg (N := 2) ?hd (cs := #[.slice none 0 0, .int .i64 0, .int .i64 0]) (t := 24) ?hr ?_; (case hd => rfl); (case hg => rfl); (case hr => first | (go_simp; done) | (go_simp; rfl)); intro gb339 hg w9 hbox hb; replace HO0_0 := zA (Kd.V_below (Kd.V_elderB HO0_0.out gb339 (Nat.le_of_eq hg.symm)) hb); have BK339 := zA (hbox); have GE339 := zA (gW HB.out hg); replace HB := zA (below_step HB.out hb); have NB338_339 := zA (gL BK338.out hg); have NB339_338 := zA (gG BK338.out hg); replace BK338 := zA (bK BK338.out hb); clear hb hbox hg; have hnb10 := NB338_339.out; have hnc10 := NB339_338.out; obtain ⟨hcz11_0, hcz11_1, hcz11_2, hfz11_0, hfz11_1, hfz11_2⟩ := b6 BK338.out) | ((with_reducible refine gate_callee (f := 36) rfl ?_); refine goesL_ (some 9) rfl rfl Try.func36 (by kernel_rfl) rfl #[.agg #[.slice A0_0 l0_0.length c0_0, .int .i64 a0_1, .int .i64 a0_2]] rfl (by (try simp only [List.map_toArray, List.map_cons, List.map_nil]); first | done | rfl | (simp only [List.length_drop, List.length_take]; rfl)) ?_; (with_reducible refine (reelkeeperref13_mounted.calls k _ _ l0_0 a0_1 a0_2 t340 _ ?side1 ?side2 A2.out).mono ?_); (case side1 => repeat (first | exact (Kd.V_reads' HO0_0.out).2.2 | (with_reducible refine Kd.C_alloc ?_ _) | (with_reducible refine Kd.C_drewN ?_ _) | (with_reducible refine Kd.C_drew ?_))); (case side2 => exact (Kd.V_reads' HO0_0.out).2.1); rintro e w12 ⟨rfl, hb⟩; refine ⟨_, rfl, ?_⟩; replace HO0_0 := zA (Kd.V_below HO0_0.out hb); replace BK338 := zA (bK BK338.out hb); replace BK339 := zA (bK BK339.out hb); replace HB := zA (below_step HB.out hb); (try clear hb); (try clear hb2); (try clear hk); (try clear hi)))
     replace HO0_0 := zA (Kd.V_drew HO0_0.out); replace BK338 := zA (bW BK338.out); replace BK339 := zA (bW BK339.out); replace HB := zA (bD HB.out); have p341 : 0 ≤ (a0_1 : Int) := of_decide_eq_true (by assumption); have q341 : a0_1 < (l0_0.length : Int) := of_decide_eq_true (by assumption); obtain ⟨ad341, A341_1, c341_1, e341, hx341_0, hx341_1, hx341_2, hl341_1, hi341_1⟩ := at_T41 (Kd.V_reads' HO0_0.out).2.2 a0_1 p341 q341; cases e341; obtain ⟨ce341, hce341, hMe341, hcc341⟩ := Kd.V_get HO0_0.out z41 a0_1 p341 (by first | exact q341 | exact of_decide_eq_true (by assumption) | (have e_ := (Kd.V_reads' HO0_0.out).1; omega)); obtain ⟨ua341_1, uc341_1, rfl, ul341_1, ge341_1⟩ := k41_openF hMe341; have hv341_1 := hcc341 1 _ rfl
     rw [add_field _ _ 1 (by omega)] at hv341_1
     replace hv341_1 := Option.some.inj (hv341_1.symm.trans hx341_1)
     injection hv341_1 with hva_ hvn_ hvc_
     rw [hva_] at ge341_1
     rw [hvc_] at ul341_1
     have HL341_1 := zA (show Kd.V (Kd.slice 5 (Kd.int .u8)) 25 _ w.heap.size _ _ ((rd_T41 l0_0 a0_1).f1) from Kd.V_mk ul341_1 ge341_1); clear hva_ hvn_ hvc_ ge341_1 ul341_1; clear hcc341 hce341; have HR341_1 := zA hi341_1; have HC341_1 := zA hl341_1; clear hi341_1 hl341_1; replace p341 := eq_true p341; replace q341 := eq_true q341; refine start_ (n := 14) (S := fun w' => w'.cell? ⟨gb338, 0, none⟩ = some (.slice (some ad341) l0_0.length c0_0) ∧ w'.cell? ⟨gb338, 1, none⟩ = some (.int .i64 a0_1) ∧ w'.cell? ⟨gb338, 2, none⟩ = some (.int .i64 a0_2) ∧ w'.cell? (ad341.add ((a0_1).toNat * 3)) = some (.int .i64 ((rd_T41 l0_0 a0_1).f0)) ∧ w'.cell? ⟨(ad341.add ((a0_1).toNat * 3)).block, (ad341.add ((a0_1).toNat * 3)).off + 1, none⟩ = some (.slice A341_1 ((rd_T41 l0_0 a0_1).f1).length c341_1) ∧ w'.cell? ⟨(ad341.add ((a0_1).toNat * 3)).block, (ad341.add ((a0_1).toNat * 3)).off + 2, none⟩ = some (.bool ((rd_T41 l0_0 a0_1).f2))) (ds := []) (bs 14 0) (by kernel_rfl) rfl rfl ⟨(blk_cell BK338.out 0).trans rfl, (blk_cell BK338.out 1).trans rfl, (blk_cell BK338.out 2).trans rfl, hx341_0, hx341_1, hx341_2⟩ (fun hHeld => ?_); refine with_tabW reelkeeperref13_Read.tab4 reelkeeperref13_Read.bits4 (fun HT_ HW_ => ?_)
     generalize w12.drew = w13 at HO0_0 BK338 BK339 HB HL341_1 HR341_1 hx341_0 hx341_1 hx341_2 hHeld ⊢
     refine pure_ (i := 0) (N := some 15) (v := ?_) (a' := ?_) (bs 14 1) rfl rfl (any_of HT_.out (by kernel_rfl)) (fun _ _ _ h => h) (Or.inl ⟨by rfl, ?_⟩) ?_ ?_; rotate_left
     ·intro w'
      go_simp
      with_reducible rfl
     rotate_left
     ·simp only [Act.put, sA, sB, sC, i64_w, i32_w]
      rfl
     refine pure_ (i := 2) (N := some 17) (v := ?_) (a' := ?_) (bs 14 5) rfl rfl (any_of HT_.out (by kernel_rfl)) (fun _ _ _ h => h) (Or.inl ⟨by rfl, ?_⟩) ?_ ?_; rotate_left
     ·intro w'
      go_simp
      with_reducible rfl
     rotate_left
     ·simp only [Act.put, sA, sB, sC, i64_w, i32_w]
      rfl
     refine pure_ (i := 6) (N := some 21) (v := ?_) (a' := ?_) (bs 14 69) rfl rfl (any_of HT_.out (by kernel_rfl)) (fun _ _ _ h => h) (Or.inl ⟨by rfl, ?_⟩) ?_ ?_; rotate_left
     ·intro w'
      go_simp
      with_reducible rfl
     rotate_left
     ·simp only [Act.put, sA, sB, sC, i64_w, i32_w]
      rfl
     refine take_ (i := 1) (N := some 16) (v := ?_) (a' := ?_) (bs 14 71) rfl rfl (take_ofW HT_.out HW_.out (by kernel_rfl)) (fun _ _ _ h => h) (Or.inl ⟨by rfl, ?_⟩) hHeld ?_ ?_; rotate_left
     ·rintro w' ⟨s0, s1, s2, s3, s4, s5⟩
      go_simp
      with_reducible rfl
     rotate_left
     ·simp only [Act.put, sA, sB, sC, i64_w, i32_w]
      rfl
     refine take_ (i := 3) (N := some 18) (v := ?_) (a' := ?_) (bs 14 79) rfl rfl (take_ofW HT_.out HW_.out (by kernel_rfl)) (fun _ _ _ h => h) (Or.inl ⟨by rfl, ?_⟩) hHeld ?_ ?_; rotate_left
     ·rintro w' ⟨s0, s1, s2, s3, s4, s5⟩
      go_simp
      with_reducible rfl
     rotate_left
     ·simp only [Act.put, sA, sB, sC, i64_w, i32_w]
      rfl
     refine pure_ (i := 4) (N := some 19) (v := ?_) (a' := ?_) (bs 14 95) rfl rfl (any_of HT_.out (by kernel_rfl)) (fun _ _ _ h => h) (Or.inl ⟨by rfl, ?_⟩) ?_ ?_; rotate_left
     ·intro w'
      go_simp
      with_reducible rfl
     rotate_left
     ·simp only [Act.put, sA, sB, sC, i64_w, i32_w]
      rfl
     refine take_ (i := 5) (N := some 20) (v := ?_) (a' := ?_) (bs 14 127) rfl rfl (take_ofW HT_.out HW_.out (by kernel_rfl)) (fun _ _ _ h => h) (Or.inl ⟨by rfl, ?_⟩) hHeld ?_ ?_; rotate_left
     ·rintro w' ⟨s0, s1, s2, s3, s4, s5⟩
      go_simp
      with_reducible rfl
     rotate_left
     ·simp only [Act.put, sA, sB, sC, i64_w, i32_w]
      rfl
     refine take_ (i := 7) (N := some 22) (v := ?_) (a' := ?_) (bs 14 255) rfl rfl (take_ofW HT_.out HW_.out (by kernel_rfl)) (fun _ _ _ h => h) (Or.inl ⟨by rfl, ?_⟩) hHeld ?_ ?_; rotate_left
     ·rintro w' ⟨s0, s1, s2, s3, s4, s5⟩
      go_simp
      with_reducible rfl
     rotate_left
     ·simp only [Act.put, sA, sB, sC, i64_w, i32_w]
      rfl
     refine one_ (i := 8) (N := some 23) (bs 14 511) rfl rfl (one_of HT_.out (by kernel_rfl)) (by decide) (fun K hK => ?_); refine goes_ Try.func48 (by kernel_rfl) rfl #[.agg #[.int .i64 ((rd_T41 l0_0 a0_1).f0), .slice A341_1 ((rd_T41 l0_0 a0_1).f1).length c341_1, .bool ((rd_T41 l0_0 a0_1).f2)], .int .i64 a0_2] (by rfl) rfl rfl (by (try simp only [List.map_toArray, List.map_cons, List.map_nil]); first | done | rfl | (simp only [List.length_drop, List.length_take]; rfl)) ?_
     with_reducible refine (reelkeeperref12_Read.calls k ((rd_T41 l0_0 a0_1).f0) (fun k_ => (((P0_0_ k_ ∨ w.heap.size ≤ k_) ∧ k_ ≠ gb338) ∧ k_ ≠ gb339)) _ _ ((rd_T41 l0_0 a0_1).f1) ((rd_T41 l0_0 a0_1).f2) a0_2 t342 t345 _ ?side1 A6.out).mono ?_
     (case side1 => exact HL341_1.out)
     rintro e w14 ⟨v343, rfl, ho0, hb⟩
     have HS3_ := (hb.cell (World.block_lt_of_cell? _ _ (hHeld.2.2.2.1))).trans (hHeld.2.2.2.1); have HS4_ := (hb.cell (World.block_lt_of_cell? _ _ (hHeld.2.2.2.2.1))).trans (hHeld.2.2.2.2.1); have HS5_ := (hb.cell (World.block_lt_of_cell? _ _ (hHeld.2.2.2.2.2))).trans (hHeld.2.2.2.2.2); refine ⟨_, rfl, ?_⟩; replace HO0_0 := zA (Kd.V_below HO0_0.out hb); replace HL341_1 := zA (Kd.V_below HL341_1.out hb); have HO344 := zA (Kd.V_lower (Kd.V_mono (ok' := fun k_ => (P0_0_ k_ ∨ w.heap.size ≤ k_) ∧ k_ ≠ gb338 ∧ k_ ≠ gb339) ho0 (fun k_ hk_ => ⟨Or.elim hk_ (fun hs_ => hs_.1.1) (fun hn_ => (.inr (Nat.le_trans (below_size (by repeat (first | (with_reducible first | exact HB.out | apply bL | apply bP | apply bD | refine bS ?_ GE338.out | refine bS ?_ GE339.out) | exact HB.out))) hn_))), Or.elim hk_ (fun hs_ => hs_.1.2) (fun hn_ => (Kd.freshB BK338.out k_ hn_)), Or.elim hk_ (fun hs_ => hs_.2) (fun hn_ => (Kd.freshB BK339.out k_ hn_))⟩)) (below_size (by repeat (first | (with_reducible first | exact HB.out | apply bL | apply bP | apply bD | refine bS ?_ GE338.out | refine bS ?_ GE339.out) | exact HB.out)))); replace BK338 := zA (bK BK338.out hb); replace BK339 := zA (bK BK339.out hb); replace HR341_1 := zA (Kd.C_below (by repeat (first | (with_reducible exact HR341_1.out) | (with_reducible refine Kd.C_alloc ?_ _) | (with_reducible refine Kd.C_drewN ?_ _) | (with_reducible refine Kd.C_drew ?_) | exact HR341_1.out)) hb); replace HB := zA (below_step HB.out hb)
     (try clear hb)
     (try clear hb2)
     (try clear hk)
     (try clear hi)
     (try clear ho0)
     refine hK.out _ _ ⟨(blk_cell BK338.out 0).trans rfl, (blk_cell BK338.out 1).trans rfl, (blk_cell BK338.out 2).trans rfl, HS3_, HS4_, HS5_⟩ (fun hHeld => ?_); clear hK K; refine norm_ (a' := ?_) ?_ ?_; rotate_left
     ·show Act.put _ (some 23) _ = _
      simp only [Act.put, sA, sB, sC, i64_w, i32_w]
      rfl
     refine pure_ (i := 9) (N := some 14) (v := ?_) (a' := ?_) (bs 14 1023) rfl rfl (any_of HT_.out (by kernel_rfl)) (fun _ _ _ h => h) (Or.inl ⟨by rfl, ?_⟩) ?_ ?_; rotate_left
     ·intro w'
      go_simp
      with_reducible rfl
     rotate_left
     ·simp only [Act.put, sA, sB, sC, i64_w, i32_w]
      rfl
     refine pure_ (i := 10) (N := some 24) (v := ?_) (a' := ?_) (bs 14 2047) rfl rfl (any_of HT_.out (by kernel_rfl)) (fun _ _ _ h => h) (Or.inl ⟨by rfl, ?_⟩) ?_ ?_; rotate_left
     ·intro w'
      go_simp
      with_reducible rfl
     rotate_left
     ·simp only [Act.put, sA, sB, sC, i64_w, i32_w]
      rfl
     refine pure_ (i := 11) (N := some 25) (v := ?_) (a' := ?_) (bs 14 4095) rfl rfl (any_of HT_.out (by kernel_rfl)) (fun _ _ _ h => h) (Or.inl ⟨by rfl, ?_⟩) ?_ ?_; rotate_left
     ·intro w'
      go_simp
      with_reducible rfl
     rotate_left
     ·simp only [Act.put, sA, sB, sC, i64_w, i32_w]
      rfl
     refine pure_ (i := 12) (N := some 6) (v := ?_) (a' := ?_) (bs 14 8191) rfl rfl (any_of HT_.out (by kernel_rfl)) (fun _ _ _ h => h) (Or.inl ⟨by rfl, ?_⟩) ?_ ?_; rotate_left
     ·intro w'
      go_simp
      with_reducible rfl
     rotate_left
     ·simp only [Act.put, sA, sB, sC, i64_w, i32_w]
      rfl
     refine pure_ (i := 13) (N := some 7) (v := ?_) (a' := ?_) (bs 14 16383) rfl rfl (any_of HT_.out (by kernel_rfl)) (fun _ _ _ h => h) (Or.inl ⟨by rfl, ?_⟩) ?_ ?_; rotate_left
     ·intro w'
      go_simp
      with_reducible rfl
     rotate_left
     ·simp only [Act.put, sA, sB, sC, i64_w, i32_w]
      rfl
     refine done_ (done_of HT_.out (by kernel_rfl)) ?_; obtain ⟨hcz15_0, hcz15_1, hcz15_2, hfz15_0, hfz15_1, hfz15_2⟩ := b6 BK338.out; obtain ⟨hcz16_0, hcz16_1, hcz16_2, hfz16_0, hfz16_1, hfz16_2⟩ := b6 BK339.out
     try go_wp2
     refine bodyPost_ret (results_ctt rfl _ _ gb339 24 #[.slice (some ad341) l0_0.length c0_0, .int .i64 a0_1, .int .i64 (wrap64 (a0_2 + 1))] (0, 0) _ rfl (by refine blk_put (cs := #[.slice (some ad341) l0_0.length c0_0, .int .i64 a0_1, .int .i64 0]) ?_ 2 _ rfl; refine blk_put (cs := #[.slice (some ad341) l0_0.length c0_0, .int .i64 0, .int .i64 0]) ?_ 1 _ rfl; refine blk_put (cs := #[.slice none 0 0, .int .i64 0, .int .i64 0]) ?_ 0 _ rfl; exact BK339.out) Try.underlying24 rfl (by kernel_rfl)) rfl ?_; exact ⟨_, _, by first | rfl | (simp [errW_none, errW_some] <;> rfl) | (simp [*, errW_none, errW_some] <;> rfl), by exact Kd.V_mono (Kd.V_far (p := ⟨gb339, 2, none⟩) (Kd.V_far (p := ⟨gb339, 1, none⟩) (Kd.V_far (p := ⟨gb339, 0, none⟩) (Kd.V_mono HO0_0.out (fun k_ hk => (⟨hk, hk.2⟩ : _ ∧ k_ ≠ gb339))) (fun _ hk => hk.2) (.slice (some ad341) l0_0.length c0_0)) (fun _ hk => hk.2) (.int .i64 a0_1)) (fun _ hk => hk.2) (.int .i64 (wrap64 (a0_2 + 1)))) (fun _ hk => hk.1.1.1), by exact Kd.V_mono (Kd.V_far (p := ⟨gb339, 2, none⟩) (Kd.V_far (p := ⟨gb339, 1, none⟩) (Kd.V_far (p := ⟨gb339, 0, none⟩) (Kd.V_mono HO344.out (fun k_ hk => (⟨hk, hk.2.2⟩ : _ ∧ k_ ≠ gb339))) (fun _ hk => hk.2) (.slice (some ad341) l0_0.length c0_0)) (fun _ hk => hk.2) (.int .i64 a0_1)) (fun _ hk => hk.2) (.int .i64 (wrap64 (a0_2 + 1)))) (fun _ hk => hk.1.1), by repeat (first | (with_reducible first | exact HB.out | apply bL | apply bP | apply bD | refine bS ?_ GE338.out | refine bS ?_ GE339.out) | exact HB.out)⟩
    ·rw [if_neg c7] at H
     have c7b0 : (t345 == 0) = false := beq_eq_false_iff_ne.mpr c7; have c7b1 : (t345 != 0) = true := bne_iff_ne.mpr c7
     simp only [Option.some.injEq, Prod.mk.injEq] at H
     obtain ⟨rfl, rfl, rfl, rfl, rfl⟩ := H
     go_enter Try.func22, Try.ntmps22
     try go_wp2_with (first | ((with_reducible refine gate_dst (N := 1) rfl ?_); refine box_event ?hg (N := 1) ?hd (cs := #[.slice A0_0 l0_0.length c0_0, .int .i64 a0_1, .int .i64 a0_2]) (t := 24) ?hr ?_; (case hd => rfl); (case hg => rfl); (case hr => first | (go_simp; done) | (go_simp; rfl)); intro gb338 hg w17 hbox hb; replace HO0_0 := zA (Kd.V_below (Kd.V_elderB HO0_0.out gb338 (Nat.le_of_eq hg.symm)) hb); have BK338 := zA (hbox); have GE338 := zA (gW HB.out hg); replace HB := zA (below_step HB.out hb); clear hb hbox hg) | ((with_reducible refine gate_dst (N := 2) rfl ?_); refine box_event ?hg (N := 2) ?hd (cs := #[.slice none 0 0, .int .i64 0, .int .i64 0]) (t := 24) ?hr ?_; (case hd => rfl); (case hg => rfl); (case hr => first | (go_simp; done) | (go_simp; rfl)); intro gb339 hg w18 hbox hb; replace HO0_0 := zA (Kd.V_below (Kd.V_elderB HO0_0.out gb339 (Nat.le_of_eq hg.symm)) hb); have BK339 := zA (hbox); have GE339 := zA (gW HB.out hg); replace HB := zA (below_step HB.out hb); have NB338_339 := zA (gL BK338.out hg); have NB339_338 := zA (gG BK338.out hg); replace BK338 := zA (bK BK338.out hb); clear hb hbox hg; have hnb19 := NB338_339.out; have hnc19 := NB339_338.out; obtain ⟨hcz20_0, hcz20_1, hcz20_2, hfz20_0, hfz20_1, hfz20_2⟩ := b6 BK338.out) | ((with_reducible refine gate_callee (f := 36) rfl ?_); refine goesL_ (some 9) rfl rfl Try.func36 (by kernel_rfl) rfl #[.agg #[.slice A0_0 l0_0.length c0_0, .int .i64 a0_1, .int .i64 a0_2]] rfl (by (try simp only [List.map_toArray, List.map_cons, List.map_nil]); first | done | rfl | (simp only [List.length_drop, List.length_take]; rfl)) ?_; (with_reducible refine (reelkeeperref13_mounted.calls k _ _ l0_0 a0_1 a0_2 t340 _ ?side1 ?side2 A2.out).mono ?_); (case side1 => repeat (first | exact (Kd.V_reads' HO0_0.out).2.2 | (with_reducible refine Kd.C_alloc ?_ _) | (with_reducible refine Kd.C_drewN ?_ _) | (with_reducible refine Kd.C_drew ?_))); (case side2 => exact (Kd.V_reads' HO0_0.out).2.1); rintro e w21 ⟨rfl, hb⟩; refine ⟨_, rfl, ?_⟩; replace HO0_0 := zA (Kd.V_below HO0_0.out hb); replace BK338 := zA (bK BK338.out hb); replace BK339 := zA (bK BK339.out hb); replace HB := zA (below_step HB.out hb); (try clear hb); (try clear hb2); (try clear hk); (try clear hi)))
     replace HO0_0 := zA (Kd.V_drew HO0_0.out); replace BK338 := zA (bW BK338.out); replace BK339 := zA (bW BK339.out); replace HB := zA (bD HB.out); have p341 : 0 ≤ (a0_1 : Int) := of_decide_eq_true (by assumption); have q341 : a0_1 < (l0_0.length : Int) := of_decide_eq_true (by assumption); obtain ⟨ad341, A341_1, c341_1, e341, hx341_0, hx341_1, hx341_2, hl341_1, hi341_1⟩ := at_T41 (Kd.V_reads' HO0_0.out).2.2 a0_1 p341 q341; cases e341; obtain ⟨ce341, hce341, hMe341, hcc341⟩ := Kd.V_get HO0_0.out z41 a0_1 p341 (by first | exact q341 | exact of_decide_eq_true (by assumption) | (have e_ := (Kd.V_reads' HO0_0.out).1; omega)); obtain ⟨ua341_1, uc341_1, rfl, ul341_1, ge341_1⟩ := k41_openF hMe341; have hv341_1 := hcc341 1 _ rfl
     rw [add_field _ _ 1 (by omega)] at hv341_1
     replace hv341_1 := Option.some.inj (hv341_1.symm.trans hx341_1)
     injection hv341_1 with hva_ hvn_ hvc_
     rw [hva_] at ge341_1
     rw [hvc_] at ul341_1
     have HL341_1 := zA (show Kd.V (Kd.slice 5 (Kd.int .u8)) 25 _ w.heap.size _ _ ((rd_T41 l0_0 a0_1).f1) from Kd.V_mk ul341_1 ge341_1); clear hva_ hvn_ hvc_ ge341_1 ul341_1; clear hcc341 hce341; have HR341_1 := zA hi341_1; have HC341_1 := zA hl341_1; clear hi341_1 hl341_1; replace p341 := eq_true p341; replace q341 := eq_true q341; refine start_ (n := 14) (S := fun w' => w'.cell? ⟨gb338, 0, none⟩ = some (.slice (some ad341) l0_0.length c0_0) ∧ w'.cell? ⟨gb338, 1, none⟩ = some (.int .i64 a0_1) ∧ w'.cell? ⟨gb338, 2, none⟩ = some (.int .i64 a0_2) ∧ w'.cell? (ad341.add ((a0_1).toNat * 3)) = some (.int .i64 ((rd_T41 l0_0 a0_1).f0)) ∧ w'.cell? ⟨(ad341.add ((a0_1).toNat * 3)).block, (ad341.add ((a0_1).toNat * 3)).off + 1, none⟩ = some (.slice A341_1 ((rd_T41 l0_0 a0_1).f1).length c341_1) ∧ w'.cell? ⟨(ad341.add ((a0_1).toNat * 3)).block, (ad341.add ((a0_1).toNat * 3)).off + 2, none⟩ = some (.bool ((rd_T41 l0_0 a0_1).f2))) (ds := []) (bs 14 0) (by kernel_rfl) rfl rfl ⟨(blk_cell BK338.out 0).trans rfl, (blk_cell BK338.out 1).trans rfl, (blk_cell BK338.out 2).trans rfl, hx341_0, hx341_1, hx341_2⟩ (fun hHeld => ?_); refine with_tabW reelkeeperref13_Read.tab4 reelkeeperref13_Read.bits4 (fun HT_ HW_ => ?_)
     generalize w21.drew = w22 at HO0_0 BK338 BK339 HB HL341_1 HR341_1 hx341_0 hx341_1 hx341_2 hHeld ⊢
     refine pure_ (i := 0) (N := some 15) (v := ?_) (a' := ?_) (bs 14 1) rfl rfl (any_of HT_.out (by kernel_rfl)) (fun _ _ _ h => h) (Or.inl ⟨by rfl, ?_⟩) ?_ ?_; rotate_left
     ·intro w'
      go_simp
      with_reducible rfl
     rotate_left
     ·simp only [Act.put, sA, sB, sC, i64_w, i32_w]
      rfl
     refine pure_ (i := 2) (N := some 17) (v := ?_) (a' := ?_) (bs 14 5) rfl rfl (any_of HT_.out (by kernel_rfl)) (fun _ _ _ h => h) (Or.inl ⟨by rfl, ?_⟩) ?_ ?_; rotate_left
     ·intro w'
      go_simp
      with_reducible rfl
     rotate_left
     ·simp only [Act.put, sA, sB, sC, i64_w, i32_w]
      rfl
     refine pure_ (i := 6) (N := some 21) (v := ?_) (a' := ?_) (bs 14 69) rfl rfl (any_of HT_.out (by kernel_rfl)) (fun _ _ _ h => h) (Or.inl ⟨by rfl, ?_⟩) ?_ ?_; rotate_left
     ·intro w'
      go_simp
      with_reducible rfl
     rotate_left
     ·simp only [Act.put, sA, sB, sC, i64_w, i32_w]
      rfl
     refine take_ (i := 1) (N := some 16) (v := ?_) (a' := ?_) (bs 14 71) rfl rfl (take_ofW HT_.out HW_.out (by kernel_rfl)) (fun _ _ _ h => h) (Or.inl ⟨by rfl, ?_⟩) hHeld ?_ ?_; rotate_left
     ·rintro w' ⟨s0, s1, s2, s3, s4, s5⟩
      go_simp
      with_reducible rfl
     rotate_left
     ·simp only [Act.put, sA, sB, sC, i64_w, i32_w]
      rfl
     refine take_ (i := 3) (N := some 18) (v := ?_) (a' := ?_) (bs 14 79) rfl rfl (take_ofW HT_.out HW_.out (by kernel_rfl)) (fun _ _ _ h => h) (Or.inl ⟨by rfl, ?_⟩) hHeld ?_ ?_; rotate_left
     ·rintro w' ⟨s0, s1, s2, s3, s4, s5⟩
      go_simp
      with_reducible rfl
     rotate_left
     ·simp only [Act.put, sA, sB, sC, i64_w, i32_w]
      rfl
     refine pure_ (i := 4) (N := some 19) (v := ?_) (a' := ?_) (bs 14 95) rfl rfl (any_of HT_.out (by kernel_rfl)) (fun _ _ _ h => h) (Or.inl ⟨by rfl, ?_⟩) ?_ ?_; rotate_left
     ·intro w'
      go_simp
      with_reducible rfl
     rotate_left
     ·simp only [Act.put, sA, sB, sC, i64_w, i32_w]
      rfl
     refine take_ (i := 5) (N := some 20) (v := ?_) (a' := ?_) (bs 14 127) rfl rfl (take_ofW HT_.out HW_.out (by kernel_rfl)) (fun _ _ _ h => h) (Or.inl ⟨by rfl, ?_⟩) hHeld ?_ ?_; rotate_left
     ·rintro w' ⟨s0, s1, s2, s3, s4, s5⟩
      go_simp
      with_reducible rfl
     rotate_left
     ·simp only [Act.put, sA, sB, sC, i64_w, i32_w]
      rfl
     refine take_ (i := 7) (N := some 22) (v := ?_) (a' := ?_) (bs 14 255) rfl rfl (take_ofW HT_.out HW_.out (by kernel_rfl)) (fun _ _ _ h => h) (Or.inl ⟨by rfl, ?_⟩) hHeld ?_ ?_; rotate_left
     ·rintro w' ⟨s0, s1, s2, s3, s4, s5⟩
      go_simp
      with_reducible rfl
     rotate_left
     ·simp only [Act.put, sA, sB, sC, i64_w, i32_w]
      rfl
     refine one_ (i := 8) (N := some 23) (bs 14 511) rfl rfl (one_of HT_.out (by kernel_rfl)) (by decide) (fun K hK => ?_); refine goes_ Try.func48 (by kernel_rfl) rfl #[.agg #[.int .i64 ((rd_T41 l0_0 a0_1).f0), .slice A341_1 ((rd_T41 l0_0 a0_1).f1).length c341_1, .bool ((rd_T41 l0_0 a0_1).f2)], .int .i64 a0_2] (by rfl) rfl rfl (by (try simp only [List.map_toArray, List.map_cons, List.map_nil]); first | done | rfl | (simp only [List.length_drop, List.length_take]; rfl)) ?_
     with_reducible refine (reelkeeperref12_Read.calls k ((rd_T41 l0_0 a0_1).f0) (fun k_ => (((P0_0_ k_ ∨ w.heap.size ≤ k_) ∧ k_ ≠ gb338) ∧ k_ ≠ gb339)) _ _ ((rd_T41 l0_0 a0_1).f1) ((rd_T41 l0_0 a0_1).f2) a0_2 t342 t345 _ ?side1 A6.out).mono ?_
     (case side1 => exact HL341_1.out)
     rintro e w23 ⟨v343, rfl, ho0, hb⟩
     have HS3_ := (hb.cell (World.block_lt_of_cell? _ _ (hHeld.2.2.2.1))).trans (hHeld.2.2.2.1); have HS4_ := (hb.cell (World.block_lt_of_cell? _ _ (hHeld.2.2.2.2.1))).trans (hHeld.2.2.2.2.1); have HS5_ := (hb.cell (World.block_lt_of_cell? _ _ (hHeld.2.2.2.2.2))).trans (hHeld.2.2.2.2.2); refine ⟨_, rfl, ?_⟩; replace HO0_0 := zA (Kd.V_below HO0_0.out hb); replace BK338 := zA (bK BK338.out hb); replace BK339 := zA (bK BK339.out hb); replace HB := zA (below_step HB.out hb)
     (try clear hb)
     (try clear hb2)
     (try clear hk)
     (try clear hi)
     (try clear ho0)
     refine hK.out _ _ ⟨(blk_cell BK338.out 0).trans rfl, (blk_cell BK338.out 1).trans rfl, (blk_cell BK338.out 2).trans rfl, HS3_, HS4_, HS5_⟩ (fun hHeld => ?_); clear hK K; refine norm_ (a' := ?_) ?_ ?_; rotate_left
     ·show Act.put _ (some 23) _ = _
      simp only [Act.put, sA, sB, sC, i64_w, i32_w]
      rfl
     refine pure_ (i := 9) (N := some 14) (v := ?_) (a' := ?_) (bs 14 1023) rfl rfl (any_of HT_.out (by kernel_rfl)) (fun _ _ _ h => h) (Or.inl ⟨by rfl, ?_⟩) ?_ ?_; rotate_left
     ·intro w'
      go_simp
      with_reducible rfl
     rotate_left
     ·simp only [Act.put, sA, sB, sC, i64_w, i32_w]
      rfl
     refine pure_ (i := 10) (N := some 24) (v := ?_) (a' := ?_) (bs 14 2047) rfl rfl (any_of HT_.out (by kernel_rfl)) (fun _ _ _ h => h) (Or.inl ⟨by rfl, ?_⟩) ?_ ?_; rotate_left
     ·intro w'
      go_simp
      with_reducible rfl
     rotate_left
     ·simp only [Act.put, sA, sB, sC, i64_w, i32_w]
      rfl
     refine pure_ (i := 11) (N := some 25) (v := ?_) (a' := ?_) (bs 14 4095) rfl rfl (any_of HT_.out (by kernel_rfl)) (fun _ _ _ h => h) (Or.inl ⟨by rfl, ?_⟩) ?_ ?_; rotate_left
     ·intro w'
      go_simp
      with_reducible rfl
     rotate_left
     ·simp only [Act.put, sA, sB, sC, i64_w, i32_w]
      rfl
     refine pure_ (i := 12) (N := some 6) (v := ?_) (a' := ?_) (bs 14 8191) rfl rfl (any_of HT_.out (by kernel_rfl)) (fun _ _ _ h => h) (Or.inl ⟨by rfl, ?_⟩) ?_ ?_; rotate_left
     ·intro w'
      go_simp
      with_reducible rfl
     rotate_left
     ·simp only [Act.put, sA, sB, sC, i64_w, i32_w]
      rfl
     refine pure_ (i := 13) (N := some 7) (v := ?_) (a' := ?_) (bs 14 16383) rfl rfl (any_of HT_.out (by kernel_rfl)) (fun _ _ _ h => h) (Or.inl ⟨by rfl, ?_⟩) ?_ ?_; rotate_left
     ·intro w'
      go_simp
      with_reducible rfl
     rotate_left
     ·simp only [Act.put, sA, sB, sC, i64_w, i32_w]
      rfl
     refine done_ (done_of HT_.out (by kernel_rfl)) ?_; obtain ⟨hcz24_0, hcz24_1, hcz24_2, hfz24_0, hfz24_1, hfz24_2⟩ := b6 BK338.out; obtain ⟨hcz25_0, hcz25_1, hcz25_2, hfz25_0, hfz25_1, hfz25_2⟩ := b6 BK339.out
     try go_wp2
     refine bodyPost_ret (results_ctt rfl _ _ gb339 24 #[.slice (some ad341) l0_0.length c0_0, .int .i64 a0_1, .int .i64 a0_2] (0, 0) _ rfl (by refine blk_put (cs := #[.slice (some ad341) l0_0.length c0_0, .int .i64 a0_1, .int .i64 0]) ?_ 2 _ rfl; refine blk_put (cs := #[.slice (some ad341) l0_0.length c0_0, .int .i64 0, .int .i64 0]) ?_ 1 _ rfl; refine blk_put (cs := #[.slice none 0 0, .int .i64 0, .int .i64 0]) ?_ 0 _ rfl; exact BK339.out) Try.underlying24 rfl (by kernel_rfl)) rfl ?_; exact ⟨_, _, by first | rfl | (simp [errW_none, errW_some] <;> rfl) | (simp [*, errW_none, errW_some] <;> rfl), by exact Kd.V_mono (Kd.V_far (p := ⟨gb339, 2, none⟩) (Kd.V_far (p := ⟨gb339, 1, none⟩) (Kd.V_far (p := ⟨gb339, 0, none⟩) (Kd.V_mono HO0_0.out (fun k_ hk => (⟨hk, hk.2⟩ : _ ∧ k_ ≠ gb339))) (fun _ hk => hk.2) (.slice (some ad341) l0_0.length c0_0)) (fun _ hk => hk.2) (.int .i64 a0_1)) (fun _ hk => hk.2) (.int .i64 a0_2)) (fun _ hk => hk.1.1.1), Kd.V_nil _ _ _ _ _, by repeat (first | (with_reducible first | exact HB.out | apply bL | apply bP | apply bD | refine bS ?_ GE338.out | refine bS ?_ GE339.out) | exact HB.out)⟩
   ·rw [if_neg c5] at H
    exact absurd H (by simp)
  ·rw [if_neg c4] at H
   exact absurd H (by simp)
 ·rw [if_neg c3] at H
  have c3b0 : (t340 == 0) = false := beq_eq_false_iff_ne.mpr c3; have c3b1 : (t340 != 0) = true := bne_iff_ne.mpr c3
  simp only [Option.some.injEq, Prod.mk.injEq] at H
  obtain ⟨rfl, rfl, rfl, rfl, rfl⟩ := H
  go_enter Try.func22, Try.ntmps22
  go_wp2_with (first | ((with_reducible refine gate_dst (N := 1) rfl ?_); refine box_event ?hg (N := 1) ?hd (cs := #[.slice A0_0 l0_0.length c0_0, .int .i64 a0_1, .int .i64 a0_2]) (t := 24) ?hr ?_; (case hd => rfl); (case hg => rfl); (case hr => first | (go_simp; done) | (go_simp; rfl)); intro gb338 hg w26 hbox hb; replace HO0_0 := zA (Kd.V_below (Kd.V_elderB HO0_0.out gb338 (Nat.le_of_eq hg.symm)) hb); have BK338 := zA (hbox); have GE338 := zA (gW HB.out hg); replace HB := zA (below_step HB.out hb); clear hb hbox hg) | ((with_reducible refine gate_dst (N := 2) rfl ?_); refine box_event ?hg (N := 2) ?hd (cs := #[.slice none 0 0, .int .i64 0, .int .i64 0]) (t := 24) ?hr ?_; (case hd => rfl); (case hg => rfl); (case hr => first | (go_simp; done) | (go_simp; rfl)); intro gb339 hg w27 hbox hb; replace HO0_0 := zA (Kd.V_below (Kd.V_elderB HO0_0.out gb339 (Nat.le_of_eq hg.symm)) hb); have BK339 := zA (hbox); have GE339 := zA (gW HB.out hg); replace HB := zA (below_step HB.out hb); have NB338_339 := zA (gL BK338.out hg); have NB339_338 := zA (gG BK338.out hg); replace BK338 := zA (bK BK338.out hb); clear hb hbox hg; have hnb28 := NB338_339.out; have hnc28 := NB339_338.out; obtain ⟨hcz29_0, hcz29_1, hcz29_2, hfz29_0, hfz29_1, hfz29_2⟩ := b6 BK338.out) | ((with_reducible refine gate_callee (f := 36) rfl ?_); refine goesL_ (some 9) rfl rfl Try.func36 (by kernel_rfl) rfl #[.agg #[.slice A0_0 l0_0.length c0_0, .int .i64 a0_1, .int .i64 a0_2]] rfl (by (try simp only [List.map_toArray, List.map_cons, List.map_nil]); first | done | rfl | (simp only [List.length_drop, List.length_take]; rfl)) ?_; (with_reducible refine (reelkeeperref13_mounted.calls k _ _ l0_0 a0_1 a0_2 t340 _ ?side1 ?side2 A2.out).mono ?_); (case side1 => repeat (first | exact (Kd.V_reads' HO0_0.out).2.2 | (with_reducible refine Kd.C_alloc ?_ _) | (with_reducible refine Kd.C_drewN ?_ _) | (with_reducible refine Kd.C_drew ?_))); (case side2 => exact (Kd.V_reads' HO0_0.out).2.1); rintro e w30 ⟨rfl, hb⟩; refine ⟨_, rfl, ?_⟩; replace HO0_0 := zA (Kd.V_below HO0_0.out hb); replace BK338 := zA (bK BK338.out hb); replace BK339 := zA (bK BK339.out hb); replace HB := zA (below_step HB.out hb); (try clear hb); (try clear hb2); (try clear hk); (try clear hi); obtain ⟨hcz31_0, hcz31_1, hcz31_2, hfz31_0, hfz31_1, hfz31_2⟩ := b6 BK338.out; obtain ⟨hcz32_0, hcz32_1, hcz32_2, hfz32_0, hfz32_1, hfz32_2⟩ := b6 BK339.out))
  refine bodyPost_ret (results_ctt rfl _ _ gb339 24 #[.slice A0_0 l0_0.length c0_0, .int .i64 a0_1, .int .i64 a0_2] (0, 0) _ rfl (by refine blk_put (cs := #[.slice A0_0 l0_0.length c0_0, .int .i64 a0_1, .int .i64 0]) ?_ 2 _ rfl; refine blk_put (cs := #[.slice A0_0 l0_0.length c0_0, .int .i64 0, .int .i64 0]) ?_ 1 _ rfl; refine blk_put (cs := #[.slice none 0 0, .int .i64 0, .int .i64 0]) ?_ 0 _ rfl; exact BK339.out) Try.underlying24 rfl (by kernel_rfl)) rfl ?_; exact ⟨_, _, by first | rfl | (simp [errW_none, errW_some] <;> rfl) | (simp [*, errW_none, errW_some] <;> rfl), by exact Kd.V_mono (Kd.V_far (p := ⟨gb339, 2, none⟩) (Kd.V_far (p := ⟨gb339, 1, none⟩) (Kd.V_far (p := ⟨gb339, 0, none⟩) (Kd.V_mono HO0_0.out (fun k_ hk => (⟨hk, hk.2⟩ : _ ∧ k_ ≠ gb339))) (fun _ hk => hk.2) (.slice A0_0 l0_0.length c0_0)) (fun _ hk => hk.2) (.int .i64 a0_1)) (fun _ hk => hk.2) (.int .i64 a0_2)) (fun _ hk => hk.1.1.1), Kd.V_nil _ _ _ _ _, by repeat (first | (with_reducible first | exact HB.out | apply bL | apply bP | apply bD | refine bS ?_ GE338.out | refine bS ?_ GE339.out) | exact HB.out)⟩

end Go.Proofs.Ytpbfeegfkiegeaa.M
