/- Part of a claim: what some functions of the program compute, each with its contract; no condition of its own. Written by a program of this workplace (gen.py, over the print of the kit) and by hand. -/
import Derived.Test.YtkhepijngopmbaaM0
import Derived.Test.YtkhepijngopmbaaM9
import Derived.Test.YtkhepijngopmbaaM13
import Derived.Test.YtkhepijngopmbaaM16
import Derived.Test.YtkhepijngopmbaaM19
namespace Go.Proofs.Ytkhepijngopmbaa.M
open Go.RowKit Go.Proofs.YtkhepijngopmbaaW.PrintWords Go.Proofs.YtkhepijngopmbaaW.PrintLast Go.Proofs.YtkhepijngopmbaaW.PrintMore
attribute [local go_sem] max2_int min2_int max_two min_two max_three min_three max_four min_four   -- for this text's walks alone
set_option linter.unusedVariables false
set_option linter.unusedSimpArgs false

/-! ### reelkeeperlaw12_TapeParts_v0: function 5 -/
def reelkeeperlaw12_TapeParts_v0.j0 : Nat → List (List Int) → List (List Int) → Bool → Bool → Int → List (List Int) → Bool → Option (Bool)
  | 0, _, _, _, _, _, _, _ => none
  | k + 1, x1, x2, x7, x41, x209000, x209001, x209002 => if x41 = true then (some x7) else ((tape_Fill.f x209000 x209001 x209002 x1).bind fun bt213 => ((tape_Fill.f bt213.1 bt213.2.1 bt213.2.2.1 x2).bind fun bt221 => (if ([] : List (List Int)).length + x1.length < 5864062014805 then ((some (([] : List (List Int)) ++ x1 : List (List Int))).bind fun y229 => (if y229.length + x2.length < 5864062014805 then ((tape_Fill.f x209000 x209001 x209002 (y229 ++ x2)).bind fun bt235 => (if bt213.2.2.2.2 = 0 then ((tape_Same.f bt235.1 bt235.2.1 bt235.2.2.1 bt221.1 bt221.2.1 bt221.2.2.1).bind fun t243 => (if t243 = true then (if bt235.2.2.2.1 = (wrap64 (bt213.2.2.2.1 + bt221.2.2.2.1)) then (some (bt235.2.2.2.2 == bt221.2.2.2.2)) else (none)) else (none))) else (none))) else (none))) else (none))))
def reelkeeperlaw12_TapeParts_v0.f (k : Nat) (a0_0 : Int) (l0_1 : List (List Int)) (a0_2 : Bool) (l1 : List (List Int)) (l2 : List (List Int)) : Option (Bool) := (reelkeeperlaw12_awake.f).bind fun t209 => ((reelkeeperlaw11_FewRecs.f k l0_1).bind fun t210 => ((reelkeeperlaw11_FewRecs.f k l1).bind fun t211 => ((reelkeeperlaw11_FewRecs.f k l2).bind fun t212 => (if t209 = true then (if t210 = true then (if t211 = true then (reelkeeperlaw12_TapeParts_v0.j0 k l1 l2 t209 (!t212) a0_0 l0_1 a0_2) else (reelkeeperlaw12_TapeParts_v0.j0 k l1 l2 t209 true a0_0 l0_1 a0_2)) else (reelkeeperlaw12_TapeParts_v0.j0 k l1 l2 t209 true a0_0 l0_1 a0_2)) else (reelkeeperlaw12_TapeParts_v0.j0 k l1 l2 t209 true a0_0 l0_1 a0_2)))))
theorem reelkeeperlaw12_TapeParts_v0.mono_l : ∀ k, (∀ y0 y1 y2 y3 y4 y5 y6, LeO (reelkeeperlaw12_TapeParts_v0.j0 k y0 y1 y2 y3 y4 y5 y6) (reelkeeperlaw12_TapeParts_v0.j0 (k + 1) y0 y1 y2 y3 y4 y5 y6))
  | 0 => fun _ _ _ _ _ _ _ r h => by simp [reelkeeperlaw12_TapeParts_v0.j0] at h
  | k + 1 => by
    have ih0 := reelkeeperlaw12_TapeParts_v0.mono_l k
    · intro y0 y1 y2 y3 y4 y5 y6
      unfold reelkeeperlaw12_TapeParts_v0.j0
      repeat' first
      | (with_reducible exact ih0 _ _ _ _ _ _ _)
      | (with_reducible exact reelkeeperlaw11_FewRecs.mono _ _)
      | (with_reducible exact LeO.refl _)
      | (with_reducible exact LeO.none _)
      | (with_reducible refine LeO.ite ?_ ?_)
      | (with_reducible refine LeO.bind ?_ (fun _ => ?_))
      | exact ih0 _ _ _ _ _ _ _
      | exact reelkeeperlaw11_FewRecs.mono _ _
      | exact LeO.none _
      | refine LeO.ite ?_ ?_
      | refine LeO.bind ?_ (fun _ => ?_)
theorem reelkeeperlaw12_TapeParts_v0.mono : ∀ a0 a1 a2 a3 a4 k, LeO (reelkeeperlaw12_TapeParts_v0.f k a0 a1 a2 a3 a4) (reelkeeperlaw12_TapeParts_v0.f (k + 1) a0 a1 a2 a3 a4) := by
  intro a0 a1 a2 a3 a4 k
  have ih0 := reelkeeperlaw12_TapeParts_v0.mono_l k
  unfold reelkeeperlaw12_TapeParts_v0.f
  repeat' first
      | (with_reducible exact ih0 _ _ _ _ _ _ _)
      | (with_reducible exact reelkeeperlaw11_FewRecs.mono _ _)
      | (with_reducible exact LeO.refl _)
      | (with_reducible exact LeO.none _)
      | (with_reducible refine LeO.ite ?_ ?_)
      | (with_reducible refine LeO.bind ?_ (fun _ => ?_))
      | exact ih0 _ _ _ _ _ _ _
      | exact reelkeeperlaw11_FewRecs.mono _ _
      | exact LeO.none _
      | refine LeO.ite ?_ ?_
      | refine LeO.bind ?_ (fun _ => ?_)
def reelkeeperlaw12_TapeParts_v0.T9 : Bool × List (List Nat × List Nat) := (true, [([], []), ([], []), ([1], [1]), ([], []), ([2, 3, 2], [2, 3]), ([0, 4, 4], [0, 4]), ([5], [5]), ([6], [6]), ([6], [6]), ([6], [6]), ([], []), ([10, 7, 5, 0, 1, 2, 3, 4, 5, 6, 7, 10], [7, 10]), ([8, 11, 0, 1, 2, 3, 4, 5, 6, 7, 8, 10, 11], [8]), ([9, 12, 0, 1, 2, 3, 4, 5, 6, 7, 8, 9, 10, 11, 12], [9])])
def reelkeeperlaw12_TapeParts_v0.B9 : List Nat := [0, 0, 2, 0, 14, 31, 63, 127, 127, 127, 0, 1279, 3583, 8191]
theorem reelkeeperlaw12_TapeParts_v0.tab9 : rtab .any (opsOf Try.f5 9) = reelkeeperlaw12_TapeParts_v0.T9 := by kernel_rfl
theorem reelkeeperlaw12_TapeParts_v0.bits9 : waitsOk reelkeeperlaw12_TapeParts_v0.T9.2 reelkeeperlaw12_TapeParts_v0.B9 = true := by kernel_rfl
set_option maxHeartbeats 8000000 in
set_option maxRecDepth 100000 in
theorem reelkeeperlaw12_TapeParts_v0.calls (k : Nat) (a0_0 : Int) (A0_1 : Option Addr) (c0_1 : Nat) (l0_1 : List (List Int)) (a0_2 : Bool) (P1_ : Nat → Prop) (A1 : Option Addr) (c1 : Nat) (l1 : List (List Int)) (P2_ : Nat → Prop) (A2 : Option Addr) (c2 : Nat) (l2 : List (List Int)) (r : Bool) (w : World) (hr0_1 : Kd.C (Kd.slice 5 (Kd.int .u8)) w A0_1 l0_1.length l0_1) (hc0_1 : l0_1.length ≤ c0_1) (hs1 : Kd.V (Kd.slice 5 (Kd.int .u8)) 25 w w.heap.size (fun k_ => P1_ k_) (.slice A1 l1.length c1) l1) (hs2 : Kd.V (Kd.slice 5 (Kd.int .u8)) 25 w w.heap.size (fun k_ => P2_ k_) (.slice A2 l2.length c2) l2) (h : reelkeeperlaw12_TapeParts_v0.f k a0_0 l0_1 a0_2 l1 l2 = some r) :
    Calls Try.prog 5 #[.agg #[.int .i64 a0_0, .slice A0_1 l0_1.length c0_1, .bool a0_2], .slice A1 l1.length c1, .slice A2 l2.length c2] w fun e w' => e = .returned (.bool r) ∧ Below w.heap.size w w' := by
  have hu24 := Try.underlying24
  have HR0_1 := Aside0.mk hr0_1
  have HC0_1 := Aside0.mk hc0_1
  clear hr0_1 hc0_1
  have HO1 := Aside0.mk (show Kd.V (Kd.slice 5 (Kd.int .u8)) 25 w w.heap.size (fun k_ => ((P1_ k_ ∨ P2_ k_) ∨ w.heap.size ≤ k_)) (.slice A1 l1.length c1) l1 from Kd.V_mono hs1 (fun k_ hk => .inl (.inl hk)))
  have HO2 := Aside0.mk (show Kd.V (Kd.slice 5 (Kd.int .u8)) 25 w w.heap.size (fun k_ => ((P1_ k_ ∨ P2_ k_) ∨ w.heap.size ≤ k_)) (.slice A2 l2.length c2) l2 from Kd.V_mono hs2 (fun k_ hk => .inl (.inr hk)))
  have HB := Aside0.mk (Below.refl w.heap.size w)
  have H : ((reelkeeperlaw12_awake.f).bind fun t209 => ((reelkeeperlaw11_FewRecs.f k l0_1).bind fun t210 => ((reelkeeperlaw11_FewRecs.f k l1).bind fun t211 => ((reelkeeperlaw11_FewRecs.f k l2).bind fun t212 => (if t209 = true then (if t210 = true then (if t211 = true then (reelkeeperlaw12_TapeParts_v0.j0 k l1 l2 t209 (!t212) a0_0 l0_1 a0_2) else (reelkeeperlaw12_TapeParts_v0.j0 k l1 l2 t209 true a0_0 l0_1 a0_2)) else (reelkeeperlaw12_TapeParts_v0.j0 k l1 l2 t209 true a0_0 l0_1 a0_2)) else (reelkeeperlaw12_TapeParts_v0.j0 k l1 l2 t209 true a0_0 l0_1 a0_2)))))) = some r := h
  clear h
  replace H := Option.bind_eq_some_iff.mp H
  obtain ⟨t209, A40, H⟩ := H
  replace H : ((reelkeeperlaw11_FewRecs.f k l0_1).bind fun t210 => ((reelkeeperlaw11_FewRecs.f k l1).bind fun t211 => ((reelkeeperlaw11_FewRecs.f k l2).bind fun t212 => (if t209 = true then (if t210 = true then (if t211 = true then (reelkeeperlaw12_TapeParts_v0.j0 k l1 l2 t209 (!t212) a0_0 l0_1 a0_2) else (reelkeeperlaw12_TapeParts_v0.j0 k l1 l2 t209 true a0_0 l0_1 a0_2)) else (reelkeeperlaw12_TapeParts_v0.j0 k l1 l2 t209 true a0_0 l0_1 a0_2)) else (reelkeeperlaw12_TapeParts_v0.j0 k l1 l2 t209 true a0_0 l0_1 a0_2))))) = some r := H
  have A4 := Aside0.mk A40
  clear A40
  replace H := Option.bind_eq_some_iff.mp H
  obtain ⟨t210, A50, H⟩ := H
  replace H : ((reelkeeperlaw11_FewRecs.f k l1).bind fun t211 => ((reelkeeperlaw11_FewRecs.f k l2).bind fun t212 => (if t209 = true then (if t210 = true then (if t211 = true then (reelkeeperlaw12_TapeParts_v0.j0 k l1 l2 t209 (!t212) a0_0 l0_1 a0_2) else (reelkeeperlaw12_TapeParts_v0.j0 k l1 l2 t209 true a0_0 l0_1 a0_2)) else (reelkeeperlaw12_TapeParts_v0.j0 k l1 l2 t209 true a0_0 l0_1 a0_2)) else (reelkeeperlaw12_TapeParts_v0.j0 k l1 l2 t209 true a0_0 l0_1 a0_2)))) = some r := H
  have A5 := Aside0.mk A50
  clear A50
  replace H := Option.bind_eq_some_iff.mp H
  obtain ⟨t211, A60, H⟩ := H
  replace H : ((reelkeeperlaw11_FewRecs.f k l2).bind fun t212 => (if t209 = true then (if t210 = true then (if t211 = true then (reelkeeperlaw12_TapeParts_v0.j0 k l1 l2 t209 (!t212) a0_0 l0_1 a0_2) else (reelkeeperlaw12_TapeParts_v0.j0 k l1 l2 t209 true a0_0 l0_1 a0_2)) else (reelkeeperlaw12_TapeParts_v0.j0 k l1 l2 t209 true a0_0 l0_1 a0_2)) else (reelkeeperlaw12_TapeParts_v0.j0 k l1 l2 t209 true a0_0 l0_1 a0_2))) = some r := H
  have A6 := Aside0.mk A60
  clear A60
  replace H := Option.bind_eq_some_iff.mp H
  obtain ⟨t212, A70, H⟩ := H
  replace H : (if t209 = true then (if t210 = true then (if t211 = true then (reelkeeperlaw12_TapeParts_v0.j0 k l1 l2 t209 (!t212) a0_0 l0_1 a0_2) else (reelkeeperlaw12_TapeParts_v0.j0 k l1 l2 t209 true a0_0 l0_1 a0_2)) else (reelkeeperlaw12_TapeParts_v0.j0 k l1 l2 t209 true a0_0 l0_1 a0_2)) else (reelkeeperlaw12_TapeParts_v0.j0 k l1 l2 t209 true a0_0 l0_1 a0_2)) = some r := H
  have A7 := Aside0.mk A70
  clear A70
  have HC8 := Aside0.mk H
  clear H
  go_enter Try.func5, Try.ntmps5
  go_upto_region 5 with (first | ((with_reducible refine gate_dst (N := 3) rfl ?_); refine box_event ?hg (N := 3) ?hd (cs := #[.int .i64 a0_0, .slice A0_1 l0_1.length c0_1, .bool a0_2]) (t := 24) ?hr ?_; (case hd => rfl); (case hg => rfl); (case hr => first | (go_simp; done) | (go_simp; rfl)); intro gb208 hg w9 hbox hb; have n0_ := Aside0.mk (Kd.V_below (Kd.V_elderB (by (with_reducible repeat (first | apply Kd.V_alloc | apply Kd.V_drewN | apply Kd.V_drew)); exact HO1.out) gb208 (Nat.le_of_eq hg.symm)) hb); have n1_ := Aside0.mk (Kd.V_below (Kd.V_elderB (by (with_reducible repeat (first | apply Kd.V_alloc | apply Kd.V_drewN | apply Kd.V_drew)); exact HO2.out) gb208 (Nat.le_of_eq hg.symm)) hb); have n2_ := Aside0.mk (below_step (by repeat (first | (with_reducible first | exact HB.out | apply below_alloc | apply pw_below_drewN | apply below_drew1) | exact HB.out)) hb); have n3_ := Aside0.mk (hbox); have n4_ := Aside0.mk ((by rw [hg]; exact (below_size (by repeat (first | (with_reducible first | exact HB.out | apply below_alloc | apply pw_below_drewN | apply below_drew1) | exact HB.out))) : w.heap.size ≤ gb208)); have n5_ := Aside0.mk ((by rw [hg]; exact (below_size (by repeat (first | (with_reducible first | exact HB.out | apply below_alloc | apply pw_below_drewN | apply below_drew1) | exact HB.out))) : w.heap.size ≤ gb208)); clear HO1; clear HO2; clear HB; have HO1 := n0_; have HO2 := n1_; have HB := n2_; have BK208 := n3_; have GW208 := n4_; have GE208 := n5_; clear n0_ n1_ n2_ n3_ n4_ n5_; clear hb hbox hg) | ((with_reducible refine gate_callee (f := 9) rfl ?_); refine goesL_ (some 20) rfl rfl Try.func9 (by kernel_rfl) rfl #[] rfl (by (try simp only [List.map_toArray, List.map_cons, List.map_nil]); first | done | rfl | (simp only [List.length_drop, List.length_take]; rfl)) ?_; (with_reducible refine (reelkeeperlaw12_awake.calls  t209 _ A4.out).mono ?_); rintro e w10 ⟨rfl, hb⟩; refine ⟨_, rfl, ?_⟩; have n0_ := Aside0.mk (Kd.V_below (by (with_reducible repeat (first | apply Kd.V_alloc | apply Kd.V_drewN | apply Kd.V_drew)); exact HO1.out) hb); have n1_ := Aside0.mk (Kd.V_below (by (with_reducible repeat (first | apply Kd.V_alloc | apply Kd.V_drewN | apply Kd.V_drew)); exact HO2.out) hb); have n2_ := Aside0.mk (blk_below (g := gb208) (o := .cells #[.int .i64 a0_0, .slice A0_1 l0_1.length c0_1, .bool a0_2] 24 (0, 0)) (by (with_reducible repeat (first | refine blk_drewN ?_ _ | refine blk_drew ?_ | refine blk_alloc ?_ _)); exact BK208.out) hb); have n3_ := Aside0.mk (below_step (by repeat (first | (with_reducible first | exact HB.out | apply below_alloc | apply pw_below_drewN | apply below_drew1 | refine below_set ?_ GE208.out) | exact HB.out)) hb); clear HO1; clear HO2; clear BK208; clear HB; have HO1 := n0_; have HO2 := n1_; have BK208 := n2_; have HB := n3_; clear n0_ n1_ n2_ n3_; (try clear hb); (try clear hb2); (try clear hk); (try clear hi); have hcz11_0 : w10.cell? ⟨gb208, 0, none⟩ = some (.int .i64 a0_0) := (blk_cell BK208.out 0).trans rfl; have hcz11_1 : w10.cell? ⟨gb208, 1, none⟩ = some (.slice A0_1 l0_1.length c0_1) := (blk_cell BK208.out 1).trans rfl; have hcz11_2 : w10.cell? ⟨gb208, 2, none⟩ = some (.bool a0_2) := (blk_cell BK208.out 2).trans rfl; have hfz11_0 := blk_frozen BK208.out 0; have hfz11_1 := blk_frozen BK208.out 1; have hfz11_2 := blk_frozen BK208.out 2) | ((with_reducible refine gate_callee (f := 10) rfl ?_); refine goesL_ (some 23) rfl rfl Try.func10 (by kernel_rfl) rfl #[.slice A0_1 l0_1.length c0_1] rfl (by (try simp only [List.map_toArray, List.map_cons, List.map_nil]); first | done | rfl | (simp only [List.length_drop, List.length_take]; rfl)) ?_; (with_reducible refine (reelkeeperlaw11_FewRecs.calls k _ _ l0_1 t210 _ ?side1 ?side2 A5.out).mono ?_); (case side1 => repeat (first | exact (Kd.C_below HR0_1.out HB.out) | (with_reducible refine Kd.C_alloc ?_ _) | (with_reducible refine Kd.C_drewN ?_ _) | (with_reducible refine Kd.C_drew ?_))); (case side2 => exact HC0_1.out); rintro e w' ⟨rfl, ⟨nd, rfl⟩⟩; refine ⟨_, rfl, ?_⟩) | ((with_reducible refine gate_callee (f := 10) rfl ?_); refine goesL_ (some 25) rfl rfl Try.func10 (by kernel_rfl) rfl #[.slice A1 l1.length c1] rfl (by (try simp only [List.map_toArray, List.map_cons, List.map_nil]); first | done | rfl | (simp only [List.length_drop, List.length_take]; rfl)) ?_; (with_reducible refine (reelkeeperlaw11_FewRecs.calls k _ _ l1 t211 _ ?side1 ?side2 A6.out).mono ?_); (case side1 => repeat (first | exact (Kd.V_reads' HO1.out).2.2 | (with_reducible refine Kd.C_alloc ?_ _) | (with_reducible refine Kd.C_drewN ?_ _) | (with_reducible refine Kd.C_drew ?_))); (case side2 => exact (Kd.V_reads' HO1.out).2.1); rintro e w' ⟨rfl, ⟨nd, rfl⟩⟩; refine ⟨_, rfl, ?_⟩) | ((with_reducible refine gate_callee (f := 10) rfl ?_); refine goesL_ (some 27) rfl rfl Try.func10 (by kernel_rfl) rfl #[.slice A2 l2.length c2] rfl (by (try simp only [List.map_toArray, List.map_cons, List.map_nil]); first | done | rfl | (simp only [List.length_drop, List.length_take]; rfl)) ?_; (with_reducible refine (reelkeeperlaw11_FewRecs.calls k _ _ l2 t212 _ ?side1 ?side2 A7.out).mono ?_); (case side1 => repeat (first | exact (Kd.V_reads' HO2.out).2.2 | (with_reducible refine Kd.C_alloc ?_ _) | (with_reducible refine Kd.C_drewN ?_ _) | (with_reducible refine Kd.C_drew ?_))); (case side2 => exact (Kd.V_reads' HO2.out).2.1); rintro e w' ⟨rfl, ⟨nd, rfl⟩⟩; refine ⟨_, rfl, ?_⟩))
  (try simp only [Act.put, List.setIfInBounds_toArray, List.set_cons_zero, List.set_cons_succ])
  go_cut [41] (fun v41 wc => ∃ (kq : Nat) (x41_7 : Bool), v41 = .bool x41_7 ∧ Aside0 (reelkeeperlaw12_TapeParts_v0.j0 kq l1 l2 t209 x41_7 a0_0 l0_1 a0_2 = some r) ∧ Aside0 (kq ≤ k) ∧ Aside0 (Kd.V (Kd.slice 5 (Kd.int .u8)) 25 wc w.heap.size (fun k_ => ((P1_ k_ ∨ P2_ k_) ∨ w.heap.size ≤ k_) ∧ k_ ≠ gb208) (.slice A1 l1.length c1) l1) ∧ Aside0 (Kd.V (Kd.slice 5 (Kd.int .u8)) 25 wc w.heap.size (fun k_ => ((P1_ k_ ∨ P2_ k_) ∨ w.heap.size ≤ k_) ∧ k_ ≠ gb208) (.slice A2 l2.length c2) l2) ∧ Aside0 (wc.heap[gb208]? = some (.cells #[.int .i64 a0_0, (.slice A0_1 l0_1.length c0_1), .bool a0_2] 24 (0, 0))) ∧ Aside0 (Below w.heap.size w wc))
  case first =>
    have H := HC8.out
    clear HC8
    by_cases c12 : t209 = true
    · subst c12
      have H1 : (if t210 = true then (if t211 = true then (reelkeeperlaw12_TapeParts_v0.j0 k l1 l2 true (!t212) a0_0 l0_1 a0_2) else (reelkeeperlaw12_TapeParts_v0.j0 k l1 l2 true true a0_0 l0_1 a0_2)) else (reelkeeperlaw12_TapeParts_v0.j0 k l1 l2 true true a0_0 l0_1 a0_2)) = some r := by rw [if_pos rfl] at H; exact H
      clear H
      have H := H1
      clear H1
      by_cases c13 : t210 = true
      · subst c13
        have H1 : (if t211 = true then (reelkeeperlaw12_TapeParts_v0.j0 k l1 l2 true (!t212) a0_0 l0_1 a0_2) else (reelkeeperlaw12_TapeParts_v0.j0 k l1 l2 true true a0_0 l0_1 a0_2)) = some r := by rw [if_pos rfl] at H; exact H
        clear H
        have H := H1
        clear H1
        by_cases c14 : t211 = true
        · subst c14
          have H1 : (reelkeeperlaw12_TapeParts_v0.j0 k l1 l2 true (!t212) a0_0 l0_1 a0_2) = some r := by rw [if_pos rfl] at H; exact H
          clear H
          have H := H1
          clear H1
          have H' := Aside0.mk H
          clear H
          go_wp2
          go_meet
          case rel => exact ⟨_, (!t212), (by first | rfl | (simp; done) | (simp [*]; done)), H', ⟨by first | omega | exact Nat.le_refl _⟩, ⟨by (with_reducible repeat (first | apply Kd.V_alloc | apply Kd.V_drewN | apply Kd.V_drew)); exact HO1.out⟩, ⟨by (with_reducible repeat (first | apply Kd.V_alloc | apply Kd.V_drewN | apply Kd.V_drew)); exact HO2.out⟩, ⟨by (with_reducible repeat (first | refine blk_drewN ?_ _ | refine blk_drew ?_ | refine blk_alloc ?_ _)); exact BK208.out⟩, ⟨by repeat (first | (with_reducible first | exact HB.out | apply below_alloc | apply pw_below_drewN | apply below_drew1 | refine below_set ?_ GE208.out) | exact HB.out)⟩⟩
        · replace c14 := Bool.eq_false_iff.mpr c14
          subst c14
          have H1 : (reelkeeperlaw12_TapeParts_v0.j0 k l1 l2 true true a0_0 l0_1 a0_2) = some r := by rw [if_neg (show ¬ (false = true) by decide)] at H; exact H
          clear H
          have H := H1
          clear H1
          have H' := Aside0.mk H
          clear H
          go_wp2
          go_meet
          case rel => exact ⟨_, (true), (by first | rfl | (simp; done) | (simp [*]; done)), H', ⟨by first | omega | exact Nat.le_refl _⟩, ⟨by (with_reducible repeat (first | apply Kd.V_alloc | apply Kd.V_drewN | apply Kd.V_drew)); exact HO1.out⟩, ⟨by (with_reducible repeat (first | apply Kd.V_alloc | apply Kd.V_drewN | apply Kd.V_drew)); exact HO2.out⟩, ⟨by (with_reducible repeat (first | refine blk_drewN ?_ _ | refine blk_drew ?_ | refine blk_alloc ?_ _)); exact BK208.out⟩, ⟨by repeat (first | (with_reducible first | exact HB.out | apply below_alloc | apply pw_below_drewN | apply below_drew1 | refine below_set ?_ GE208.out) | exact HB.out)⟩⟩
      · replace c13 := Bool.eq_false_iff.mpr c13
        subst c13
        have H1 : (reelkeeperlaw12_TapeParts_v0.j0 k l1 l2 true true a0_0 l0_1 a0_2) = some r := by rw [if_neg (show ¬ (false = true) by decide)] at H; exact H
        clear H
        have H := H1
        clear H1
        have H' := Aside0.mk H
        clear H
        go_wp2
        go_meet
        case rel => exact ⟨_, (true), (by first | rfl | (simp; done) | (simp [*]; done)), H', ⟨by first | omega | exact Nat.le_refl _⟩, ⟨by (with_reducible repeat (first | apply Kd.V_alloc | apply Kd.V_drewN | apply Kd.V_drew)); exact HO1.out⟩, ⟨by (with_reducible repeat (first | apply Kd.V_alloc | apply Kd.V_drewN | apply Kd.V_drew)); exact HO2.out⟩, ⟨by (with_reducible repeat (first | refine blk_drewN ?_ _ | refine blk_drew ?_ | refine blk_alloc ?_ _)); exact BK208.out⟩, ⟨by repeat (first | (with_reducible first | exact HB.out | apply below_alloc | apply pw_below_drewN | apply below_drew1 | refine below_set ?_ GE208.out) | exact HB.out)⟩⟩
    · replace c12 := Bool.eq_false_iff.mpr c12
      subst c12
      have H1 : (reelkeeperlaw12_TapeParts_v0.j0 k l1 l2 false true a0_0 l0_1 a0_2) = some r := by rw [if_neg (show ¬ (false = true) by decide)] at H; exact H
      clear H
      have H := H1
      clear H1
      have H' := Aside0.mk H
      clear H
      go_wp2
      go_meet
      case rel => exact ⟨_, (true), (by first | rfl | (simp; done) | (simp [*]; done)), H', ⟨by first | omega | exact Nat.le_refl _⟩, ⟨by (with_reducible repeat (first | apply Kd.V_alloc | apply Kd.V_drewN | apply Kd.V_drew)); exact HO1.out⟩, ⟨by (with_reducible repeat (first | apply Kd.V_alloc | apply Kd.V_drewN | apply Kd.V_drew)); exact HO2.out⟩, ⟨by (with_reducible repeat (first | refine blk_drewN ?_ _ | refine blk_drew ?_ | refine blk_alloc ?_ _)); exact BK208.out⟩, ⟨by repeat (first | (with_reducible first | exact HB.out | apply below_alloc | apply pw_below_drewN | apply below_drew1 | refine below_set ?_ GE208.out) | exact HB.out)⟩⟩
  case rest =>
    clear HC8
    try clear c1
    try clear c2
    try clear p2
    try clear c5
    try clear c9
    try clear c10
    try clear c12
    try clear c13
    try clear c14
    try clear hcz11_0
    try clear hcz11_1
    try clear hcz11_2
    try clear hfz11_0
    try clear hfz11_1
    try clear hfz11_2
    obtain ⟨kq, x41_7, rfl, HA, HJ7, HO_1, HO_2, BK208, HB⟩ := hcut
    cases kq with
    | zero => exact absurd HA.out (by simp [reelkeeperlaw12_TapeParts_v0.j0])
    | succ kj7 =>
      have H := HA.out
      clear HA
      simp only [reelkeeperlaw12_TapeParts_v0.j0] at H
      by_cases c15 : x41_7 = true
      · subst c15
        have H1 : (some t209) = some r := by rw [if_pos rfl] at H; exact H
        clear H
        have H := H1
        clear H1
        obtain rfl := Option.some.inj H
        go_wp2
        go_ret
        exact ⟨by first | rfl | (simp [errW_none, errW_some] <;> rfl) | (simp [*, errW_none, errW_some] <;> rfl), by repeat (first | (with_reducible first | exact HB.out | apply below_alloc | apply pw_below_drewN | apply below_drew1 | refine below_set ?_ GE208.out) | exact HB.out)⟩
      · replace c15 := Bool.eq_false_iff.mpr c15
        subst c15
        have H1 : ((tape_Fill.f a0_0 l0_1 a0_2 l1).bind fun bt213 => ((tape_Fill.f bt213.1 bt213.2.1 bt213.2.2.1 l2).bind fun bt221 => (if ([] : List (List Int)).length + l1.length < 5864062014805 then ((some (([] : List (List Int)) ++ l1 : List (List Int))).bind fun y229 => (if y229.length + l2.length < 5864062014805 then ((tape_Fill.f a0_0 l0_1 a0_2 (y229 ++ l2)).bind fun bt235 => (if bt213.2.2.2.2 = 0 then ((tape_Same.f bt235.1 bt235.2.1 bt235.2.2.1 bt221.1 bt221.2.1 bt221.2.2.1).bind fun t243 => (if t243 = true then (if bt235.2.2.2.1 = (wrap64 (bt213.2.2.2.1 + bt221.2.2.2.1)) then (some (bt235.2.2.2.2 == bt221.2.2.2.2)) else (none)) else (none))) else (none))) else (none))) else (none)))) = some r := by rw [if_neg (show ¬ (false = true) by decide)] at H; exact H
        clear H
        have H := H1
        clear H1
        replace H := Option.bind_eq_some_iff.mp H
        obtain ⟨⟨t213, t214, t217, t218, t219⟩, A160, H⟩ := H
        replace H : ((tape_Fill.f t213 t214 t217 l2).bind fun bt221 => (if ([] : List (List Int)).length + l1.length < 5864062014805 then ((some (([] : List (List Int)) ++ l1 : List (List Int))).bind fun y229 => (if y229.length + l2.length < 5864062014805 then ((tape_Fill.f a0_0 l0_1 a0_2 (y229 ++ l2)).bind fun bt235 => (if t219 = 0 then ((tape_Same.f bt235.1 bt235.2.1 bt235.2.2.1 bt221.1 bt221.2.1 bt221.2.2.1).bind fun t243 => (if t243 = true then (if bt235.2.2.2.1 = (wrap64 (t218 + bt221.2.2.2.1)) then (some (bt235.2.2.2.2 == bt221.2.2.2.2)) else (none)) else (none))) else (none))) else (none))) else (none))) = some r := H
        have A16 := Aside0.mk A160
        clear A160
        replace H := Option.bind_eq_some_iff.mp H
        obtain ⟨⟨t221, t222, t225, t226, t227⟩, A170, H⟩ := H
        replace H : (if ([] : List (List Int)).length + l1.length < 5864062014805 then ((some (([] : List (List Int)) ++ l1 : List (List Int))).bind fun y229 => (if y229.length + l2.length < 5864062014805 then ((tape_Fill.f a0_0 l0_1 a0_2 (y229 ++ l2)).bind fun bt235 => (if t219 = 0 then ((tape_Same.f bt235.1 bt235.2.1 bt235.2.2.1 t221 t222 t225).bind fun t243 => (if t243 = true then (if bt235.2.2.2.1 = (wrap64 (t218 + t226)) then (some (bt235.2.2.2.2 == t227)) else (none)) else (none))) else (none))) else (none))) else (none)) = some r := H
        have A17 := Aside0.mk A170
        clear A170
        by_cases c18 : ([] : List (List Int)).length + l1.length < 5864062014805
        · rw [if_pos c18] at H
          have LMc18 := Aside0.mk c18
          clear c18
          obtain ⟨y229, hy229⟩ : ∃ y_ : List (List Int), y_ = (([] : List (List Int)) ++ l1) := ⟨_, rfl⟩
          replace H : (if y229.length + l2.length < 5864062014805 then ((tape_Fill.f a0_0 l0_1 a0_2 (y229 ++ l2)).bind fun bt235 => (if t219 = 0 then ((tape_Same.f bt235.1 bt235.2.1 bt235.2.2.1 t221 t222 t225).bind fun t243 => (if t243 = true then (if bt235.2.2.2.1 = (wrap64 (t218 + t226)) then (some (bt235.2.2.2.2 == t227)) else (none)) else (none))) else (none))) else (none)) = some r := by first | (rw [hy229]; with_reducible exact H) | (have H2_ := (Option.bind_some _ _).symm.trans H; rw [hy229]; with_reducible exact H2_) | (have H2_ := (Option.bind_some _ _).symm.trans H; with_reducible exact H2_) | with_reducible exact H | (rw [hy229]; exact H) | exact H
          have Ny229 := Aside0.mk hy229
          clear hy229
          by_cases c19 : y229.length + l2.length < 5864062014805
          · rw [if_pos c19] at H
            have LMc19 := Aside0.mk c19
            clear c19
            obtain ⟨y232, hy232⟩ : ∃ y_ : List (List Int), y_ = (y229 ++ l2) := ⟨_, rfl⟩
            replace H : ((tape_Fill.f a0_0 l0_1 a0_2 y232).bind fun bt235 => (if t219 = 0 then ((tape_Same.f bt235.1 bt235.2.1 bt235.2.2.1 t221 t222 t225).bind fun t243 => (if t243 = true then (if bt235.2.2.2.1 = (wrap64 (t218 + t226)) then (some (bt235.2.2.2.2 == t227)) else (none)) else (none))) else (none))) = some r := by first | (rw [hy232]; with_reducible exact H) | (have H2_ := (Option.bind_some _ _).symm.trans H; rw [hy232]; with_reducible exact H2_) | (have H2_ := (Option.bind_some _ _).symm.trans H; with_reducible exact H2_) | with_reducible exact H | (rw [hy232]; exact H) | exact H
            have Ny232 := Aside0.mk hy232
            clear hy232
            replace H := Option.bind_eq_some_iff.mp H
            obtain ⟨⟨t235, t236, t239, t240, t241⟩, A200, H⟩ := H
            replace H : (if t219 = 0 then ((tape_Same.f t235 t236 t239 t221 t222 t225).bind fun t243 => (if t243 = true then (if t240 = (wrap64 (t218 + t226)) then (some (t241 == t227)) else (none)) else (none))) else (none)) = some r := H
            have A20 := Aside0.mk A200
            clear A200
            by_cases c21 : t219 = 0
            · rw [if_pos c21] at H
              have c21b0 : (t219 == 0) = true := beq_iff_eq.mpr c21
              have c21b1 : (t219 != 0) = false := bne_eq_false_iff_eq.mpr c21
              clear c21
              replace H := Option.bind_eq_some_iff.mp H
              obtain ⟨t243, A220, H⟩ := H
              replace H : (if t243 = true then (if t240 = (wrap64 (t218 + t226)) then (some (t241 == t227)) else (none)) else (none)) = some r := H
              have A22 := Aside0.mk A220
              clear A220
              by_cases c23 : t243 = true
              · subst c23
                have H1 : (if t240 = (wrap64 (t218 + t226)) then (some (t241 == t227)) else (none)) = some r := by rw [if_pos rfl] at H; exact H
                clear H
                have H := H1
                clear H1
                by_cases c24 : t240 = (wrap64 (t218 + t226))
                · rw [if_pos c24] at H
                  have c24b0 : (t240 == (wrap64 (t218 + t226))) = true := beq_iff_eq.mpr c24
                  have c24b1 : (t240 != (wrap64 (t218 + t226))) = false := bne_eq_false_iff_eq.mpr c24
                  clear c24
                  obtain rfl := Option.some.inj H
                  have hcz25_0 : wc.cell? ⟨gb208, 0, none⟩ = some (.int .i64 a0_0) := (blk_cell BK208.out 0).trans rfl
                  have hcz25_1 : wc.cell? ⟨gb208, 1, none⟩ = some (.slice A0_1 l0_1.length c0_1) := (blk_cell BK208.out 1).trans rfl
                  have hcz25_2 : wc.cell? ⟨gb208, 2, none⟩ = some (.bool a0_2) := (blk_cell BK208.out 2).trans rfl
                  have hfz25_0 := blk_frozen BK208.out 0
                  have hfz25_1 := blk_frozen BK208.out 1
                  have hfz25_2 := blk_frozen BK208.out 2
                  try go_wp2_with (first | ((with_reducible refine gate_callee (f := 15) rfl ?_); refine goesL_ (some 46) rfl rfl Try.func15 (by kernel_rfl) rfl #[.agg #[.int .i64 a0_0, .slice A0_1 l0_1.length c0_1, .bool a0_2], .slice A1 l1.length c1] rfl (by (try simp only [List.map_toArray, List.map_cons, List.map_nil]); first | done | rfl | (simp only [List.length_drop, List.length_take]; rfl)) ?_; (with_reducible refine (tape_Fill.calls a0_0 _ _ l0_1 a0_2 _ _ l1 t213 t214 t217 t218 t219 _ ?side1 ?side2 ?side3 ?side4 A16.out).mono ?_); (case side1 => repeat (first | exact (Kd.C_below HR0_1.out HB.out) | (with_reducible refine Kd.C_alloc ?_ _) | (with_reducible refine Kd.C_drewN ?_ _) | (with_reducible refine Kd.C_drew ?_))); (case side2 => exact HC0_1.out); (case side3 => repeat (first | exact (Kd.V_reads' HO_1.out).2.2 | (with_reducible refine Kd.C_alloc ?_ _) | (with_reducible refine Kd.C_drewN ?_ _) | (with_reducible refine Kd.C_drew ?_))); (case side4 => exact (Kd.V_reads' HO_1.out).2.1); rintro e w26 ⟨v215, rfl, ho0, hb⟩; refine ⟨_, rfl, ?_⟩; have n0_ := Aside0.mk (Kd.V_elder' (by (with_reducible repeat (first | apply Kd.V_alloc | apply Kd.V_drewN | apply Kd.V_drew)); exact HO_1.out) (by first | exact Kd.N_base ho0 | exact Kd.S_base ho0 | exact Kd.R_base ho0) hb); have n1_ := Aside0.mk (Kd.V_elder' (by (with_reducible repeat (first | apply Kd.V_alloc | apply Kd.V_drewN | apply Kd.V_drew)); exact HO_2.out) (by first | exact Kd.N_base ho0 | exact Kd.S_base ho0 | exact Kd.R_base ho0) hb); have n2_ := Aside0.mk (Kd.N_lower (Kd.N_mono (ok' := fun k_ => ((P1_ k_ ∨ P2_ k_) ∨ w.heap.size ≤ k_) ∧ k_ ≠ gb208) (Kd.S_N (Kd.S_bound ho0)) (fun k_ hk_ => ⟨(.inr (Nat.le_trans (below_size (by repeat (first | (with_reducible first | exact HB.out | apply below_alloc | apply pw_below_drewN | apply below_drew1 | refine below_set ?_ GE208.out) | exact HB.out))) hk_.2.1)), (Kd.freshB (g := gb208) (o := .cells #[.int .i64 a0_0, .slice A0_1 l0_1.length c0_1, .bool a0_2] 24 (0, 0)) (by (with_reducible repeat (first | refine blk_drewN ?_ _ | refine blk_drew ?_ | refine blk_alloc ?_ _)); exact BK208.out) k_ hk_.2.1)⟩)) (below_size (by repeat (first | (with_reducible first | exact HB.out | apply below_alloc | apply pw_below_drewN | apply below_drew1 | refine below_set ?_ GE208.out) | exact HB.out)))); have n3_ := Aside0.mk (blk_below (g := gb208) (o := .cells #[.int .i64 a0_0, .slice A0_1 l0_1.length c0_1, .bool a0_2] 24 (0, 0)) (by (with_reducible repeat (first | refine blk_drewN ?_ _ | refine blk_drew ?_ | refine blk_alloc ?_ _)); exact BK208.out) hb); have n4_ := Aside0.mk (below_step (by repeat (first | (with_reducible first | exact HB.out | apply below_alloc | apply pw_below_drewN | apply below_drew1 | refine below_set ?_ GE208.out) | exact HB.out)) hb); clear HO_1; clear HO_2; clear BK208; clear HB; have HO_1 := n0_; have HO_2 := n1_; have HO216 := n2_; have BK208 := n3_; have HB := n4_; clear n0_ n1_ n2_ n3_ n4_; (try clear hb); (try clear hb2); (try clear hk); (try clear hi); (try clear ho0)) | ((with_reducible refine gate_dst (N := 11) rfl ?_); refine box_event ?hg (N := 11) ?hd (cs := #[.int .i64 0, .slice none 0 0, .bool false]) (t := 24) ?hr ?_; (case hd => rfl); (case hg => rfl); (case hr => first | (go_simp; done) | (go_simp; rfl)); intro gb220 hg w27 hbox hb; have n0_ := Aside0.mk (Kd.V_below (Kd.V_elderB (by (with_reducible repeat (first | apply Kd.V_alloc | apply Kd.V_drewN | apply Kd.V_drew)); exact HO_1.out) gb220 (Nat.le_of_eq hg.symm)) hb); have n1_ := Aside0.mk (Kd.V_below (Kd.V_elderB (by (with_reducible repeat (first | apply Kd.V_alloc | apply Kd.V_drewN | apply Kd.V_drew)); exact HO_2.out) gb220 (Nat.le_of_eq hg.symm)) hb); have n2_ := Aside0.mk (Kd.N_below (Kd.N_elderB (by (with_reducible repeat (first | apply Kd.N_alloc | apply Kd.N_drewN | apply Kd.N_drew)); exact HO216.out) gb220 (Nat.le_of_eq hg.symm)) hb); have n3_ := Aside0.mk (blk_below (g := gb208) (o := .cells #[.int .i64 a0_0, .slice A0_1 l0_1.length c0_1, .bool a0_2] 24 (0, 0)) (by (with_reducible repeat (first | refine blk_drewN ?_ _ | refine blk_drew ?_ | refine blk_alloc ?_ _)); exact BK208.out) hb); have n4_ := Aside0.mk (below_step (by repeat (first | (with_reducible first | exact HB.out | apply below_alloc | apply pw_below_drewN | apply below_drew1 | refine below_set ?_ GE208.out) | exact HB.out)) hb); have n5_ := Aside0.mk (hbox); have n6_ := Aside0.mk ((by rw [hg]; exact (below_size (by repeat (first | (with_reducible first | exact HB.out | apply below_alloc | apply pw_below_drewN | apply below_drew1 | refine below_set ?_ GE208.out) | exact HB.out))) : w.heap.size ≤ gb220)); have n7_ := Aside0.mk ((by rw [hg]; exact (below_size (by repeat (first | (with_reducible first | exact HB.out | apply below_alloc | apply pw_below_drewN | apply below_drew1 | refine below_set ?_ GE208.out) | exact HB.out))) : w.heap.size ≤ gb220)); have n8_ := Aside0.mk ((by rw [hg]; exact Nat.ne_of_lt (blk_lt (g := gb208) (o := .cells #[.int .i64 a0_0, .slice A0_1 l0_1.length c0_1, .bool a0_2] 24 (0, 0)) (by (with_reducible repeat (first | refine blk_drewN ?_ _ | refine blk_drew ?_ | refine blk_alloc ?_ _)); exact BK208.out)) : gb208 ≠ gb220)); have n9_ := Aside0.mk ((by rw [hg]; exact Nat.ne_of_gt (blk_lt (g := gb208) (o := .cells #[.int .i64 a0_0, .slice A0_1 l0_1.length c0_1, .bool a0_2] 24 (0, 0)) (by (with_reducible repeat (first | refine blk_drewN ?_ _ | refine blk_drew ?_ | refine blk_alloc ?_ _)); exact BK208.out)) : gb220 ≠ gb208)); clear HO_1; clear HO_2; clear HO216; clear BK208; clear HB; have HO_1 := n0_; have HO_2 := n1_; have HO216 := n2_; have BK208 := n3_; have HB := n4_; have BK220 := n5_; have GW220 := n6_; have GE220 := n7_; have NB208_220 := n8_; have NB220_208 := n9_; clear n0_ n1_ n2_ n3_ n4_ n5_ n6_ n7_ n8_ n9_; clear hb hbox hg; have hnb28 := NB220_208.out; have hnc28 := NB208_220.out; have hcz29_0 : w27.cell? ⟨gb220, 0, none⟩ = some (.int .i64 0) := (blk_cell BK220.out 0).trans rfl; have hcz29_1 : w27.cell? ⟨gb220, 1, none⟩ = some (.slice none 0 0) := (blk_cell BK220.out 1).trans rfl; have hcz29_2 : w27.cell? ⟨gb220, 2, none⟩ = some (.bool false) := (blk_cell BK220.out 2).trans rfl; have hfz29_0 := blk_frozen BK220.out 0; have hfz29_1 := blk_frozen BK220.out 1; have hfz29_2 := blk_frozen BK220.out 2; obtain ⟨Ao30, co30, eo30⟩ := Kd.N_slice HO216.out; subst eo30) | ((with_reducible refine gate_callee (f := 15) rfl ?_); refine goesL_ (some 53) rfl rfl Try.func15 (by kernel_rfl) rfl #[.agg #[.int .i64 t213, .slice Ao30 t214.length co30, .bool t217], .slice A2 l2.length c2] rfl (by (try simp only [List.map_toArray, List.map_cons, List.map_nil]); first | done | rfl | (simp only [List.length_drop, List.length_take]; rfl)) ?_; (with_reducible refine (tape_Fill.calls t213 _ _ t214 t217 _ _ l2 t221 t222 t225 t226 t227 _ ?side1 ?side2 ?side3 ?side4 A17.out).mono ?_); (case side1 => refine (Kd.N_reads' (e := 25) (base := w.heap.size) (ok := fun k_ => ((((P1_ k_ ∨ P2_ k_) ∨ w.heap.size ≤ k_) ∧ k_ ≠ gb208) ∧ k_ ≠ gb220)) (n := t214.length) (c := co30) ?_).2.2; exact (by (with_reducible repeat (first | apply Kd.N_alloc | apply Kd.N_drewN | apply Kd.N_drew)); exact (Kd.N_mono (Kd.N_far (p := ⟨gb220, 2, none⟩) (Kd.N_far (p := ⟨gb220, 1, none⟩) (Kd.N_far (p := ⟨gb220, 0, none⟩) (Kd.N_mono HO216.out (fun k_ hk => (⟨hk, hk.2⟩ : _ ∧ k_ ≠ gb220))) (fun _ hk => hk.2) (.int .i64 t213)) (fun _ hk => hk.2) (.slice Ao30 t214.length co30)) (fun _ hk => hk.2) (.bool t217)) (fun _ h_ => h_.1)))); (case side2 => exact (Kd.N_reads' HO216.out).2.1); (case side3 => refine (Kd.V_reads' (e := 25) (base := w.heap.size) (ok := fun k_ => (((((P1_ k_ ∨ P2_ k_) ∨ w.heap.size ≤ k_) ∧ k_ ≠ gb208) ∧ some k_ ≠ (.slice Ao30 t214.length co30 : Value).ownBlock) ∧ k_ ≠ gb220)) (n := l2.length) (c := c2) ?_).2.2; exact (by (with_reducible repeat (first | apply Kd.V_alloc | apply Kd.V_drewN | apply Kd.V_drew)); exact (Kd.V_mono (Kd.V_far (p := ⟨gb220, 2, none⟩) (Kd.V_far (p := ⟨gb220, 1, none⟩) (Kd.V_far (p := ⟨gb220, 0, none⟩) (Kd.V_mono HO_2.out (fun k_ hk => (⟨hk, hk.2⟩ : _ ∧ k_ ≠ gb220))) (fun _ hk => hk.2) (.int .i64 t213)) (fun _ hk => hk.2) (.slice Ao30 t214.length co30)) (fun _ hk => hk.2) (.bool t217)) (fun _ h_ => h_.1)))); (case side4 => exact (Kd.V_reads' HO_2.out).2.1); rintro e w31 ⟨v223, rfl, ho0, hb⟩; refine ⟨_, rfl, ?_⟩; have n0_ := Aside0.mk (Kd.V_elder' (by (with_reducible repeat (first | apply Kd.V_alloc | apply Kd.V_drewN | apply Kd.V_drew)); exact (Kd.V_mono (Kd.V_far (p := ⟨gb220, 2, none⟩) (Kd.V_far (p := ⟨gb220, 1, none⟩) (Kd.V_far (p := ⟨gb220, 0, none⟩) (Kd.V_mono HO_1.out (fun k_ hk => (⟨hk, hk.2⟩ : _ ∧ k_ ≠ gb220))) (fun _ hk => hk.2) (.int .i64 t213)) (fun _ hk => hk.2) (.slice Ao30 t214.length co30)) (fun _ hk => hk.2) (.bool t217)) (fun _ h_ => h_.1))) (by first | exact Kd.N_base ho0 | exact Kd.S_base ho0 | exact Kd.R_base ho0) hb); have n1_ := Aside0.mk (Kd.V_elder' (by (with_reducible repeat (first | apply Kd.V_alloc | apply Kd.V_drewN | apply Kd.V_drew)); exact (Kd.V_mono (Kd.V_far (p := ⟨gb220, 2, none⟩) (Kd.V_far (p := ⟨gb220, 1, none⟩) (Kd.V_far (p := ⟨gb220, 0, none⟩) (Kd.V_mono HO_2.out (fun k_ hk => (⟨hk, hk.2⟩ : _ ∧ k_ ≠ gb220))) (fun _ hk => hk.2) (.int .i64 t213)) (fun _ hk => hk.2) (.slice Ao30 t214.length co30)) (fun _ hk => hk.2) (.bool t217)) (fun _ h_ => h_.1))) (by first | exact Kd.N_base ho0 | exact Kd.S_base ho0 | exact Kd.R_base ho0) hb); have n2_ := Aside0.mk (Kd.N_elder' (by (with_reducible repeat (first | apply Kd.N_alloc | apply Kd.N_drewN | apply Kd.N_drew)); exact (Kd.N_mono (Kd.N_far (p := ⟨gb220, 2, none⟩) (Kd.N_far (p := ⟨gb220, 1, none⟩) (Kd.N_far (p := ⟨gb220, 0, none⟩) (Kd.N_mono HO216.out (fun k_ hk => (⟨hk, hk.2⟩ : _ ∧ k_ ≠ gb220))) (fun _ hk => hk.2) (.int .i64 t213)) (fun _ hk => hk.2) (.slice Ao30 t214.length co30)) (fun _ hk => hk.2) (.bool t217)) (fun _ h_ => h_.1))) (by first | exact Kd.N_base ho0 | exact Kd.S_base ho0 | exact Kd.R_base ho0) hb); have n3_ := Aside0.mk (Kd.N_lower (Kd.N_mono (ok' := fun k_ => ((P1_ k_ ∨ P2_ k_) ∨ w.heap.size ≤ k_) ∧ some k_ ≠ (.slice Ao30 t214.length co30 : Value).ownBlock ∧ k_ ≠ gb208 ∧ k_ ≠ gb220) (Kd.S_N (Kd.S_bound ho0)) (fun k_ hk_ => ⟨(.inr (Nat.le_trans (below_size (by repeat (first | (with_reducible first | exact HB.out | apply below_alloc | apply pw_below_drewN | apply below_drew1 | refine below_set ?_ GE208.out | refine below_set ?_ GE220.out) | exact HB.out))) hk_.2.1)), (Kd.fresh' (Kd.N_lt (by (with_reducible repeat (first | apply Kd.N_alloc | apply Kd.N_drewN | apply Kd.N_drew)); exact (Kd.N_mono (Kd.N_far (p := ⟨gb220, 2, none⟩) (Kd.N_far (p := ⟨gb220, 1, none⟩) (Kd.N_far (p := ⟨gb220, 0, none⟩) (Kd.N_mono HO216.out (fun k_ hk => (⟨hk, hk.2⟩ : _ ∧ k_ ≠ gb220))) (fun _ hk => hk.2) (.int .i64 t213)) (fun _ hk => hk.2) (.slice Ao30 t214.length co30)) (fun _ hk => hk.2) (.bool t217)) (fun _ h_ => h_.1)))) k_ hk_.2.1), (Kd.freshB (g := gb208) (o := .cells #[.int .i64 a0_0, .slice A0_1 l0_1.length c0_1, .bool a0_2] 24 (0, 0)) (by (with_reducible repeat (first | refine blk_drewN ?_ _ | refine blk_drew ?_ | refine blk_alloc ?_ _)); refine blk_far ?_ NB208_220.out _; (with_reducible repeat (first | refine blk_drewN ?_ _ | refine blk_drew ?_ | refine blk_alloc ?_ _)); refine blk_far ?_ NB208_220.out _; (with_reducible repeat (first | refine blk_drewN ?_ _ | refine blk_drew ?_ | refine blk_alloc ?_ _)); refine blk_far ?_ NB208_220.out _; (with_reducible repeat (first | refine blk_drewN ?_ _ | refine blk_drew ?_ | refine blk_alloc ?_ _)); exact BK208.out) k_ hk_.2.1), (Kd.freshB (g := gb220) (o := .cells #[.int .i64 t213, .slice Ao30 t214.length co30, .bool t217] 24 (0, 0)) (by (with_reducible repeat (first | refine blk_drewN ?_ _ | refine blk_drew ?_ | refine blk_alloc ?_ _)); refine blk_put (cs := #[.int .i64 t213, .slice Ao30 t214.length co30, .bool false]) ?_ 2 _ rfl; (with_reducible repeat (first | refine blk_drewN ?_ _ | refine blk_drew ?_ | refine blk_alloc ?_ _)); refine blk_put (cs := #[.int .i64 t213, .slice none 0 0, .bool false]) ?_ 1 _ rfl; (with_reducible repeat (first | refine blk_drewN ?_ _ | refine blk_drew ?_ | refine blk_alloc ?_ _)); refine blk_put (cs := #[.int .i64 0, .slice none 0 0, .bool false]) ?_ 0 _ rfl; (with_reducible repeat (first | refine blk_drewN ?_ _ | refine blk_drew ?_ | refine blk_alloc ?_ _)); exact BK220.out) k_ hk_.2.1)⟩)) (below_size (by repeat (first | (with_reducible first | exact HB.out | apply below_alloc | apply pw_below_drewN | apply below_drew1 | refine below_set ?_ GE208.out | refine below_set ?_ GE220.out) | exact HB.out)))); have n4_ := Aside0.mk (blk_below (g := gb208) (o := .cells #[.int .i64 a0_0, .slice A0_1 l0_1.length c0_1, .bool a0_2] 24 (0, 0)) (by (with_reducible repeat (first | refine blk_drewN ?_ _ | refine blk_drew ?_ | refine blk_alloc ?_ _)); refine blk_far ?_ NB208_220.out _; (with_reducible repeat (first | refine blk_drewN ?_ _ | refine blk_drew ?_ | refine blk_alloc ?_ _)); refine blk_far ?_ NB208_220.out _; (with_reducible repeat (first | refine blk_drewN ?_ _ | refine blk_drew ?_ | refine blk_alloc ?_ _)); refine blk_far ?_ NB208_220.out _; (with_reducible repeat (first | refine blk_drewN ?_ _ | refine blk_drew ?_ | refine blk_alloc ?_ _)); exact BK208.out) hb); have n5_ := Aside0.mk (blk_below (g := gb220) (o := .cells #[.int .i64 t213, .slice Ao30 t214.length co30, .bool t217] 24 (0, 0)) (by (with_reducible repeat (first | refine blk_drewN ?_ _ | refine blk_drew ?_ | refine blk_alloc ?_ _)); refine blk_put (cs := #[.int .i64 t213, .slice Ao30 t214.length co30, .bool false]) ?_ 2 _ rfl; (with_reducible repeat (first | refine blk_drewN ?_ _ | refine blk_drew ?_ | refine blk_alloc ?_ _)); refine blk_put (cs := #[.int .i64 t213, .slice none 0 0, .bool false]) ?_ 1 _ rfl; (with_reducible repeat (first | refine blk_drewN ?_ _ | refine blk_drew ?_ | refine blk_alloc ?_ _)); refine blk_put (cs := #[.int .i64 0, .slice none 0 0, .bool false]) ?_ 0 _ rfl; (with_reducible repeat (first | refine blk_drewN ?_ _ | refine blk_drew ?_ | refine blk_alloc ?_ _)); exact BK220.out) hb); have n6_ := Aside0.mk (below_step (by repeat (first | (with_reducible first | exact HB.out | apply below_alloc | apply pw_below_drewN | apply below_drew1 | refine below_set ?_ GE208.out | refine below_set ?_ GE220.out) | exact HB.out)) hb); clear HO_1; clear HO_2; clear HO216; clear BK208; clear BK220; clear HB; have HO_1 := n0_; have HO_2 := n1_; have HO216 := n2_; have HO224 := n3_; have BK208 := n4_; have BK220 := n5_; have HB := n6_; clear n0_ n1_ n2_ n3_ n4_ n5_ n6_; (try clear hb); (try clear hb2); (try clear hk); (try clear hi); (try clear ho0)) | ((with_reducible refine gate_dst (N := 14) rfl ?_); refine box_event ?hg (N := 14) ?hd (cs := #[.int .i64 0, .slice none 0 0, .bool false]) (t := 24) ?hr ?_; (case hd => rfl); (case hg => rfl); (case hr => first | (go_simp; done) | (go_simp; rfl)); intro gb228 hg w32 hbox hb; have n0_ := Aside0.mk (Kd.V_below (Kd.V_elderB (by (with_reducible repeat (first | apply Kd.V_alloc | apply Kd.V_drewN | apply Kd.V_drew)); exact HO_1.out) gb228 (Nat.le_of_eq hg.symm)) hb); have n1_ := Aside0.mk (Kd.V_below (Kd.V_elderB (by (with_reducible repeat (first | apply Kd.V_alloc | apply Kd.V_drewN | apply Kd.V_drew)); exact HO_2.out) gb228 (Nat.le_of_eq hg.symm)) hb); have n2_ := Aside0.mk (Kd.N_below (Kd.N_elderB (by (with_reducible repeat (first | apply Kd.N_alloc | apply Kd.N_drewN | apply Kd.N_drew)); exact HO216.out) gb228 (Nat.le_of_eq hg.symm)) hb); have n3_ := Aside0.mk (Kd.N_below (Kd.N_elderB (by (with_reducible repeat (first | apply Kd.N_alloc | apply Kd.N_drewN | apply Kd.N_drew)); exact HO224.out) gb228 (Nat.le_of_eq hg.symm)) hb); have n4_ := Aside0.mk (blk_below (g := gb208) (o := .cells #[.int .i64 a0_0, .slice A0_1 l0_1.length c0_1, .bool a0_2] 24 (0, 0)) (by (with_reducible repeat (first | refine blk_drewN ?_ _ | refine blk_drew ?_ | refine blk_alloc ?_ _)); exact BK208.out) hb); have n5_ := Aside0.mk (blk_below (g := gb220) (o := .cells #[.int .i64 t213, .slice Ao30 t214.length co30, .bool t217] 24 (0, 0)) (by (with_reducible repeat (first | refine blk_drewN ?_ _ | refine blk_drew ?_ | refine blk_alloc ?_ _)); exact BK220.out) hb); have n6_ := Aside0.mk (below_step (by repeat (first | (with_reducible first | exact HB.out | apply below_alloc | apply pw_below_drewN | apply below_drew1 | refine below_set ?_ GE208.out | refine below_set ?_ GE220.out) | exact HB.out)) hb); have n7_ := Aside0.mk (hbox); have n8_ := Aside0.mk ((by rw [hg]; exact (below_size (by repeat (first | (with_reducible first | exact HB.out | apply below_alloc | apply pw_below_drewN | apply below_drew1 | refine below_set ?_ GE208.out | refine below_set ?_ GE220.out) | exact HB.out))) : w.heap.size ≤ gb228)); have n9_ := Aside0.mk ((by rw [hg]; exact (below_size (by repeat (first | (with_reducible first | exact HB.out | apply below_alloc | apply pw_below_drewN | apply below_drew1 | refine below_set ?_ GE208.out | refine below_set ?_ GE220.out) | exact HB.out))) : w.heap.size ≤ gb228)); have n10_ := Aside0.mk ((by rw [hg]; exact Nat.ne_of_lt (blk_lt (g := gb208) (o := .cells #[.int .i64 a0_0, .slice A0_1 l0_1.length c0_1, .bool a0_2] 24 (0, 0)) (by (with_reducible repeat (first | refine blk_drewN ?_ _ | refine blk_drew ?_ | refine blk_alloc ?_ _)); exact BK208.out)) : gb208 ≠ gb228)); have n11_ := Aside0.mk ((by rw [hg]; exact Nat.ne_of_gt (blk_lt (g := gb208) (o := .cells #[.int .i64 a0_0, .slice A0_1 l0_1.length c0_1, .bool a0_2] 24 (0, 0)) (by (with_reducible repeat (first | refine blk_drewN ?_ _ | refine blk_drew ?_ | refine blk_alloc ?_ _)); exact BK208.out)) : gb228 ≠ gb208)); have n12_ := Aside0.mk ((by rw [hg]; exact Nat.ne_of_lt (blk_lt (g := gb220) (o := .cells #[.int .i64 t213, .slice Ao30 t214.length co30, .bool t217] 24 (0, 0)) (by (with_reducible repeat (first | refine blk_drewN ?_ _ | refine blk_drew ?_ | refine blk_alloc ?_ _)); exact BK220.out)) : gb220 ≠ gb228)); have n13_ := Aside0.mk ((by rw [hg]; exact Nat.ne_of_gt (blk_lt (g := gb220) (o := .cells #[.int .i64 t213, .slice Ao30 t214.length co30, .bool t217] 24 (0, 0)) (by (with_reducible repeat (first | refine blk_drewN ?_ _ | refine blk_drew ?_ | refine blk_alloc ?_ _)); exact BK220.out)) : gb228 ≠ gb220)); clear HO_1; clear HO_2; clear HO216; clear HO224; clear BK208; clear BK220; clear HB; have HO_1 := n0_; have HO_2 := n1_; have HO216 := n2_; have HO224 := n3_; have BK208 := n4_; have BK220 := n5_; have HB := n6_; have BK228 := n7_; have GW228 := n8_; have GE228 := n9_; have NB208_228 := n10_; have NB228_208 := n11_; have NB220_228 := n12_; have NB228_220 := n13_; clear n0_ n1_ n2_ n3_ n4_ n5_ n6_ n7_ n8_ n9_ n10_ n11_ n12_ n13_; clear hb hbox hg; have hnb33 := NB228_208.out; have hnc33 := NB208_228.out; have hnb34 := NB228_220.out; have hnc34 := NB220_228.out; have hcz35_0 : w32.cell? ⟨gb228, 0, none⟩ = some (.int .i64 0) := (blk_cell BK228.out 0).trans rfl; have hcz35_1 : w32.cell? ⟨gb228, 1, none⟩ = some (.slice none 0 0) := (blk_cell BK228.out 1).trans rfl; have hcz35_2 : w32.cell? ⟨gb228, 2, none⟩ = some (.bool false) := (blk_cell BK228.out 2).trans rfl; have hfz35_0 := blk_frozen BK228.out 0; have hfz35_1 := blk_frozen BK228.out 1; have hfz35_2 := blk_frozen BK228.out 2; obtain ⟨Ao36, co36, eo36⟩ := Kd.N_slice HO224.out; subst eo36))
                  have n0_ : Aside0 (Kd.V (Kd.slice 5 (Kd.int .u8)) 25 (((w32.setCell ⟨gb228, 0, none⟩ (.int .i64 t221)).setCell ⟨gb228, 1, none⟩ (.slice Ao36 t222.length co36)).setCell ⟨gb228, 2, none⟩ (.bool t225)) w.heap.size (fun k_ => ((P1_ k_ ∨ P2_ k_) ∨ w.heap.size ≤ k_) ∧ some k_ ≠ (.slice Ao30 t214.length co30 : Value).ownBlock ∧ some k_ ≠ (.slice Ao36 t222.length co36 : Value).ownBlock ∧ k_ ≠ gb208 ∧ k_ ≠ gb220 ∧ k_ ≠ gb228) (.slice A1 l1.length c1) l1) := ⟨by (with_reducible repeat (first | apply Kd.V_alloc | apply Kd.V_drewN | apply Kd.V_drew)); exact Kd.V_mono (Kd.V_far (p := ⟨gb228, 2, none⟩) (Kd.V_far (p := ⟨gb228, 1, none⟩) (Kd.V_far (p := ⟨gb228, 0, none⟩) (Kd.V_mono HO_1.out (fun k_ hk => (⟨hk, hk.2⟩ : _ ∧ k_ ≠ gb228))) (fun _ hk => hk.2) (.int .i64 t221)) (fun _ hk => hk.2) (.slice Ao36 t222.length co36)) (fun _ hk => hk.2) (.bool t225)) (fun _ hk => ⟨hk.1.1.1.1.1.1, ⟨hk.1.1.1.1.2, ⟨hk.1.1.2, ⟨hk.1.1.1.1.1.2, ⟨hk.1.1.1.2, hk.1.2⟩⟩⟩⟩⟩)⟩
                  have n1_ : Aside0 (Kd.V (Kd.slice 5 (Kd.int .u8)) 25 (((w32.setCell ⟨gb228, 0, none⟩ (.int .i64 t221)).setCell ⟨gb228, 1, none⟩ (.slice Ao36 t222.length co36)).setCell ⟨gb228, 2, none⟩ (.bool t225)) w.heap.size (fun k_ => ((P1_ k_ ∨ P2_ k_) ∨ w.heap.size ≤ k_) ∧ some k_ ≠ (.slice Ao30 t214.length co30 : Value).ownBlock ∧ some k_ ≠ (.slice Ao36 t222.length co36 : Value).ownBlock ∧ k_ ≠ gb208 ∧ k_ ≠ gb220 ∧ k_ ≠ gb228) (.slice A2 l2.length c2) l2) := ⟨by (with_reducible repeat (first | apply Kd.V_alloc | apply Kd.V_drewN | apply Kd.V_drew)); exact Kd.V_mono (Kd.V_far (p := ⟨gb228, 2, none⟩) (Kd.V_far (p := ⟨gb228, 1, none⟩) (Kd.V_far (p := ⟨gb228, 0, none⟩) (Kd.V_mono HO_2.out (fun k_ hk => (⟨hk, hk.2⟩ : _ ∧ k_ ≠ gb228))) (fun _ hk => hk.2) (.int .i64 t221)) (fun _ hk => hk.2) (.slice Ao36 t222.length co36)) (fun _ hk => hk.2) (.bool t225)) (fun _ hk => ⟨hk.1.1.1.1.1.1, ⟨hk.1.1.1.1.2, ⟨hk.1.1.2, ⟨hk.1.1.1.1.1.2, ⟨hk.1.1.1.2, hk.1.2⟩⟩⟩⟩⟩)⟩
                  have n2_ : Aside0 (Kd.N (Kd.slice 5 (Kd.int .u8)) 25 (((w32.setCell ⟨gb228, 0, none⟩ (.int .i64 t221)).setCell ⟨gb228, 1, none⟩ (.slice Ao36 t222.length co36)).setCell ⟨gb228, 2, none⟩ (.bool t225)) w.heap.size (fun k_ => ((P1_ k_ ∨ P2_ k_) ∨ w.heap.size ≤ k_) ∧ some k_ ≠ (.slice Ao36 t222.length co36 : Value).ownBlock ∧ k_ ≠ gb208 ∧ k_ ≠ gb220 ∧ k_ ≠ gb228) (.slice Ao30 t214.length co30) t214) := ⟨by (with_reducible repeat (first | apply Kd.N_alloc | apply Kd.N_drewN | apply Kd.N_drew)); exact Kd.N_mono (Kd.N_far (p := ⟨gb228, 2, none⟩) (Kd.N_far (p := ⟨gb228, 1, none⟩) (Kd.N_far (p := ⟨gb228, 0, none⟩) (Kd.N_mono HO216.out (fun k_ hk => (⟨hk, hk.2⟩ : _ ∧ k_ ≠ gb228))) (fun _ hk => hk.2) (.int .i64 t221)) (fun _ hk => hk.2) (.slice Ao36 t222.length co36)) (fun _ hk => hk.2) (.bool t225)) (fun _ hk => ⟨hk.1.1.1.1.1, ⟨hk.1.1.2, ⟨hk.1.1.1.1.2, ⟨hk.1.1.1.2, hk.1.2⟩⟩⟩⟩)⟩
                  have n3_ : Aside0 (Kd.N (Kd.slice 5 (Kd.int .u8)) 25 (((w32.setCell ⟨gb228, 0, none⟩ (.int .i64 t221)).setCell ⟨gb228, 1, none⟩ (.slice Ao36 t222.length co36)).setCell ⟨gb228, 2, none⟩ (.bool t225)) w.heap.size (fun k_ => ((P1_ k_ ∨ P2_ k_) ∨ w.heap.size ≤ k_) ∧ some k_ ≠ (.slice Ao30 t214.length co30 : Value).ownBlock ∧ k_ ≠ gb208 ∧ k_ ≠ gb220 ∧ k_ ≠ gb228) (.slice Ao36 t222.length co36) t222) := ⟨by (with_reducible repeat (first | apply Kd.N_alloc | apply Kd.N_drewN | apply Kd.N_drew)); exact Kd.N_mono (Kd.N_far (p := ⟨gb228, 2, none⟩) (Kd.N_far (p := ⟨gb228, 1, none⟩) (Kd.N_far (p := ⟨gb228, 0, none⟩) (Kd.N_mono HO224.out (fun k_ hk => (⟨hk, hk.2⟩ : _ ∧ k_ ≠ gb228))) (fun _ hk => hk.2) (.int .i64 t221)) (fun _ hk => hk.2) (.slice Ao36 t222.length co36)) (fun _ hk => hk.2) (.bool t225)) (fun _ hk => ⟨hk.1.1.1, ⟨hk.1.1.2.1, ⟨hk.1.1.2.2.1, ⟨hk.1.1.2.2.2, hk.1.2⟩⟩⟩⟩)⟩
                  have n4_ : Aside0 ((((w32.setCell ⟨gb228, 0, none⟩ (.int .i64 t221)).setCell ⟨gb228, 1, none⟩ (.slice Ao36 t222.length co36)).setCell ⟨gb228, 2, none⟩ (.bool t225)).heap[gb208]? = some (.cells #[.int .i64 a0_0, .slice A0_1 l0_1.length c0_1, .bool a0_2] 24 (0, 0))) := ⟨by (with_reducible repeat (first | refine blk_drewN ?_ _ | refine blk_drew ?_ | refine blk_alloc ?_ _)); refine blk_far ?_ NB208_228.out _; (with_reducible repeat (first | refine blk_drewN ?_ _ | refine blk_drew ?_ | refine blk_alloc ?_ _)); refine blk_far ?_ NB208_228.out _; (with_reducible repeat (first | refine blk_drewN ?_ _ | refine blk_drew ?_ | refine blk_alloc ?_ _)); refine blk_far ?_ NB208_228.out _; (with_reducible repeat (first | refine blk_drewN ?_ _ | refine blk_drew ?_ | refine blk_alloc ?_ _)); exact BK208.out⟩
                  have n5_ : Aside0 ((((w32.setCell ⟨gb228, 0, none⟩ (.int .i64 t221)).setCell ⟨gb228, 1, none⟩ (.slice Ao36 t222.length co36)).setCell ⟨gb228, 2, none⟩ (.bool t225)).heap[gb220]? = some (.cells #[.int .i64 t213, .slice Ao30 t214.length co30, .bool t217] 24 (0, 0))) := ⟨by (with_reducible repeat (first | refine blk_drewN ?_ _ | refine blk_drew ?_ | refine blk_alloc ?_ _)); refine blk_far ?_ NB220_228.out _; (with_reducible repeat (first | refine blk_drewN ?_ _ | refine blk_drew ?_ | refine blk_alloc ?_ _)); refine blk_far ?_ NB220_228.out _; (with_reducible repeat (first | refine blk_drewN ?_ _ | refine blk_drew ?_ | refine blk_alloc ?_ _)); refine blk_far ?_ NB220_228.out _; (with_reducible repeat (first | refine blk_drewN ?_ _ | refine blk_drew ?_ | refine blk_alloc ?_ _)); exact BK220.out⟩
                  have n6_ : Aside0 ((((w32.setCell ⟨gb228, 0, none⟩ (.int .i64 t221)).setCell ⟨gb228, 1, none⟩ (.slice Ao36 t222.length co36)).setCell ⟨gb228, 2, none⟩ (.bool t225)).heap[gb228]? = some (.cells #[.int .i64 t221, .slice Ao36 t222.length co36, .bool t225] 24 (0, 0))) := ⟨by (with_reducible repeat (first | refine blk_drewN ?_ _ | refine blk_drew ?_ | refine blk_alloc ?_ _)); refine blk_put (cs := #[.int .i64 t221, .slice Ao36 t222.length co36, .bool false]) ?_ 2 _ rfl; (with_reducible repeat (first | refine blk_drewN ?_ _ | refine blk_drew ?_ | refine blk_alloc ?_ _)); refine blk_put (cs := #[.int .i64 t221, .slice none 0 0, .bool false]) ?_ 1 _ rfl; (with_reducible repeat (first | refine blk_drewN ?_ _ | refine blk_drew ?_ | refine blk_alloc ?_ _)); refine blk_put (cs := #[.int .i64 0, .slice none 0 0, .bool false]) ?_ 0 _ rfl; (with_reducible repeat (first | refine blk_drewN ?_ _ | refine blk_drew ?_ | refine blk_alloc ?_ _)); exact BK228.out⟩
                  have n7_ : Aside0 (Below w.heap.size w (((w32.setCell ⟨gb228, 0, none⟩ (.int .i64 t221)).setCell ⟨gb228, 1, none⟩ (.slice Ao36 t222.length co36)).setCell ⟨gb228, 2, none⟩ (.bool t225))) := ⟨by repeat (first | (with_reducible first | exact HB.out | apply below_alloc | apply pw_below_drewN | apply below_drew1 | refine below_set ?_ GE208.out | refine below_set ?_ GE220.out | refine below_set ?_ GE228.out) | exact HB.out)⟩
                  (try clear HO_1)
                  (try clear HO_2)
                  (try clear HO216)
                  (try clear HO224)
                  (try clear BK208)
                  (try clear BK220)
                  (try clear BK228)
                  (try clear HB)
                  generalize (((w32.setCell ⟨gb228, 0, none⟩ (.int .i64 t221)).setCell ⟨gb228, 1, none⟩ (.slice Ao36 t222.length co36)).setCell ⟨gb228, 2, none⟩ (.bool t225)) = w37 at n0_ n1_ n2_ n3_ n4_ n5_ n6_ n7_ ⊢
                  have HO_1 := n0_
                  have HO_2 := n1_
                  have HO216 := n2_
                  have HO224 := n3_
                  have BK208 := n4_
                  have BK220 := n5_
                  have BK228 := n6_
                  have HB := n7_
                  clear n0_ n1_ n2_ n3_ n4_ n5_ n6_ n7_
                  have n0_ := Aside0.mk (Kd.V_drew HO_1.out)
                  have n1_ := Aside0.mk (Kd.V_drew HO_2.out)
                  have n2_ := Aside0.mk (Kd.N_drew HO216.out)
                  have n3_ := Aside0.mk (Kd.N_drew HO224.out)
                  have n4_ := Aside0.mk (blk_drew BK208.out)
                  have n5_ := Aside0.mk (blk_drew BK220.out)
                  have n6_ := Aside0.mk (blk_drew BK228.out)
                  have n7_ := Aside0.mk (below_drew1 HB.out)
                  clear HO_1
                  clear HO_2
                  clear HO216
                  clear HO224
                  clear BK208
                  clear BK220
                  clear BK228
                  clear HB
                  have HO_1 := n0_
                  have HO_2 := n1_
                  have HO216 := n2_
                  have HO224 := n3_
                  have BK208 := n4_
                  have BK220 := n5_
                  have BK228 := n6_
                  have HB := n7_
                  clear n0_ n1_ n2_ n3_ n4_ n5_ n6_ n7_
                  refine start_ (n := 14) (S := fun w' => w'.cell? ⟨gb208, 0, none⟩ = some (.int .i64 a0_0) ∧ w'.cell? ⟨gb208, 1, none⟩ = some (.slice A0_1 l0_1.length c0_1) ∧ w'.cell? ⟨gb208, 2, none⟩ = some (.bool a0_2)) (ds := []) #[false, false, false, false, false, false, false, false, false, false, false, false, false, false] (by kernel_rfl) rfl rfl ⟨(blk_cell BK208.out 0).trans rfl, (blk_cell BK208.out 1).trans rfl, (blk_cell BK208.out 2).trans rfl⟩ (fun hHeld => ?_); refine with_tabW reelkeeperlaw12_TapeParts_v0.tab9 reelkeeperlaw12_TapeParts_v0.bits9 (fun HT_ HW_ => ?_)
                  generalize w37.drew = w38 at HO_1 HO_2 HO216 HO224 BK208 BK220 BK228 HB hHeld ⊢
                  refine pure_ (i := 1) (N := some 59) (v := ?_) (a' := ?_) #[false, true, false, false, false, false, false, false, false, false, false, false, false, false] rfl rfl (any_of HT_.out (by kernel_rfl)) (fun _ _ _ h => h) (Or.inl ⟨by rfl, ?_⟩) ?_ ?_
                  rotate_left
                  · intro w'
                    go_simp
                    with_reducible rfl
                  rotate_left
                  · simp only [Act.put, List.setIfInBounds_toArray, List.set_cons_zero, List.set_cons_succ, i64_w, i32_w]
                    rfl
                  refine pure_ (i := 3) (N := some 61) (v := ?_) (a' := ?_) #[false, true, false, true, false, false, false, false, false, false, false, false, false, false] rfl rfl (any_of HT_.out (by kernel_rfl)) (fun _ _ _ h => h) (Or.inl ⟨by rfl, ?_⟩) ?_ ?_
                  rotate_left
                  · intro w'
                    go_simp
                    with_reducible rfl
                  rotate_left
                  · simp only [Act.put, List.setIfInBounds_toArray, List.set_cons_zero, List.set_cons_succ, i64_w, i32_w]
                    rfl
                  refine take_ (i := 0) (N := some 58) (v := ?_) (a' := ?_) #[true, true, false, true, false, false, false, false, false, false, false, false, false, false] rfl rfl (take_ofW HT_.out HW_.out (by kernel_rfl)) (fun _ _ _ h => h) (Or.inl ⟨by rfl, ?_⟩) hHeld ?_ ?_
                  rotate_left
                  · rintro w' ⟨s0, s1, s2⟩
                    go_simp
                    with_reducible rfl
                  rotate_left
                  · simp only [Act.put, List.setIfInBounds_toArray, List.set_cons_zero, List.set_cons_succ, i64_w, i32_w]
                    rfl
                  refine join_ (σ := Value × Value × Value × Nat) 3 #[true, true, true, true, true, true, true, true, true, true, true, false, false, false] (fun s_ => [(60, s_.1), (62, s_.2.1), (63, .tuple #[.agg #[.int .i64 t235, s_.2.2.1, .bool t239], .int .i64 t240, .int .i64 t241]), (17, .pointer (some ⟨s_.2.2.2, 0, none⟩)), (57, .tuple #[.agg #[.int .i64 t235, s_.2.2.1, .bool t239], .int .i64 t240, .int .i64 t241]), (64, .agg #[.int .i64 t235, s_.2.2.1, .bool t239]), (65, .int .i64 t240), (66, .int .i64 t241)]) (fun s_ w' => (w'.cell? ⟨gb208, 0, none⟩ = some (.int .i64 a0_0) ∧ w'.cell? ⟨gb208, 1, none⟩ = some (.slice A0_1 l0_1.length c0_1) ∧ w'.cell? ⟨gb208, 2, none⟩ = some (.bool a0_2)) ∧ (Kd.N (Kd.slice 5 (Kd.int .u8)) 25 w' w.heap.size (fun k_ => ((P1_ k_ ∨ P2_ k_) ∨ w.heap.size ≤ k_) ∧ some k_ ≠ (.slice Ao36 t222.length co36 : Value).ownBlock ∧ some k_ ≠ (s_.2.1 : Value).ownBlock ∧ some k_ ≠ (s_.2.2.1 : Value).ownBlock ∧ k_ ≠ gb208 ∧ k_ ≠ gb220 ∧ k_ ≠ gb228 ∧ k_ ≠ s_.2.2.2) (.slice Ao30 t214.length co30) t214) ∧ (Kd.N (Kd.slice 5 (Kd.int .u8)) 25 w' w.heap.size (fun k_ => ((P1_ k_ ∨ P2_ k_) ∨ w.heap.size ≤ k_) ∧ some k_ ≠ (.slice Ao30 t214.length co30 : Value).ownBlock ∧ some k_ ≠ (s_.2.1 : Value).ownBlock ∧ some k_ ≠ (s_.2.2.1 : Value).ownBlock ∧ k_ ≠ gb208 ∧ k_ ≠ gb220 ∧ k_ ≠ gb228 ∧ k_ ≠ s_.2.2.2) (.slice Ao36 t222.length co36) t222) ∧ (Kd.N (Kd.slice 5 (Kd.int .u8)) 25 w' w.heap.size (fun k_ => ((P1_ k_ ∨ P2_ k_) ∨ w.heap.size ≤ k_) ∧ some k_ ≠ (.slice Ao30 t214.length co30 : Value).ownBlock ∧ some k_ ≠ (.slice Ao36 t222.length co36 : Value).ownBlock ∧ some k_ ≠ (s_.2.2.1 : Value).ownBlock ∧ k_ ≠ gb208 ∧ k_ ≠ gb220 ∧ k_ ≠ gb228 ∧ k_ ≠ s_.2.2.2) s_.2.1 y232) ∧ (Kd.N (Kd.slice 5 (Kd.int .u8)) 25 w' w.heap.size (fun k_ => ((P1_ k_ ∨ P2_ k_) ∨ w.heap.size ≤ k_) ∧ some k_ ≠ (.slice Ao30 t214.length co30 : Value).ownBlock ∧ some k_ ≠ (.slice Ao36 t222.length co36 : Value).ownBlock ∧ some k_ ≠ (s_.2.1 : Value).ownBlock ∧ k_ ≠ gb208 ∧ k_ ≠ gb220 ∧ k_ ≠ gb228 ∧ k_ ≠ s_.2.2.2) s_.2.2.1 t236) ∧ (Kd.V (Kd.slice 5 (Kd.int .u8)) 25 w' w.heap.size (fun k_ => ((P1_ k_ ∨ P2_ k_) ∨ w.heap.size ≤ k_) ∧ some k_ ≠ (.slice Ao30 t214.length co30 : Value).ownBlock ∧ some k_ ≠ (.slice Ao36 t222.length co36 : Value).ownBlock ∧ some k_ ≠ (s_.2.1 : Value).ownBlock ∧ some k_ ≠ (s_.2.2.1 : Value).ownBlock ∧ k_ ≠ gb208 ∧ k_ ≠ gb220 ∧ k_ ≠ gb228 ∧ k_ ≠ s_.2.2.2) (.slice A1 l1.length c1) l1) ∧ (Kd.V (Kd.slice 5 (Kd.int .u8)) 25 w' w.heap.size (fun k_ => ((P1_ k_ ∨ P2_ k_) ∨ w.heap.size ≤ k_) ∧ some k_ ≠ (.slice Ao30 t214.length co30 : Value).ownBlock ∧ some k_ ≠ (.slice Ao36 t222.length co36 : Value).ownBlock ∧ some k_ ≠ (s_.2.1 : Value).ownBlock ∧ some k_ ≠ (s_.2.2.1 : Value).ownBlock ∧ k_ ≠ gb208 ∧ k_ ≠ gb220 ∧ k_ ≠ gb228 ∧ k_ ≠ s_.2.2.2) (.slice A2 l2.length c2) l2) ∧ (w'.heap[gb208]? = some (.cells #[.int .i64 a0_0, .slice A0_1 l0_1.length c0_1, .bool a0_2] 24 (0, 0))) ∧ (w'.heap[gb220]? = some (.cells #[.int .i64 t213, .slice Ao30 t214.length co30, .bool t217] 24 (0, 0))) ∧ (w'.heap[gb228]? = some (.cells #[.int .i64 t221, .slice Ao36 t222.length co36, .bool t225] 24 (0, 0))) ∧ (w'.heap[s_.2.2.2]? = some (.cells #[.int .i64 0, .slice none 0 0, .bool false] 24 (0, 0))) ∧ (w.heap.size ≤ s_.2.2.2) ∧ (w.heap.size ≤ s_.2.2.2) ∧ (gb208 ≠ s_.2.2.2) ∧ (s_.2.2.2 ≠ gb208) ∧ (gb220 ≠ s_.2.2.2) ∧ (s_.2.2.2 ≠ gb220) ∧ (gb228 ≠ s_.2.2.2) ∧ (s_.2.2.2 ≠ gb228) ∧ (Below w.heap.size w w')) ?_ ?_
                  rotate_left
                  · intro hCont
                    refine two_ (i := 2) (j := 10) (Ni := some 60) (Nj := some 17) #[true, true, true, true, false, false, false, false, false, false, false, false, false, false] #[true, true, false, true, false, false, false, false, false, false, true, false, false, false] rfl rfl rfl rfl (two_of HT_.out (by kernel_rfl)) (by decide) (by decide) (fun K hK => ?_) (fun K hK => ?_)
                    · skip
                      refine Kd.N_append_rows_step (Kd.slice 5 (Kd.int .u8)) (w0 := w) w.heap.size (by rfl) (.const (.slice none 0 0)) (.tmp 59) 22 25 (.slice none 0 0) 24 rfl Try.underlying22 info25 rfl (by decide) (by omega) (.slice none 0 0) ([] : List (List Int)) l1 _ _ _ (fun k_ => ((P1_ k_ ∨ P2_ k_) ∨ w.heap.size ≤ k_) ∧ some k_ ≠ (.slice Ao30 t214.length co30 : Value).ownBlock ∧ some k_ ≠ (.slice Ao36 t222.length co36 : Value).ownBlock ∧ k_ ≠ gb208 ∧ k_ ≠ gb220 ∧ k_ ≠ gb228) (fun k_ => ((fun k_ => ((P1_ k_ ∨ P2_ k_) ∨ w.heap.size ≤ k_) ∧ some k_ ≠ (.slice Ao30 t214.length co30 : Value).ownBlock ∧ some k_ ≠ (.slice Ao36 t222.length co36 : Value).ownBlock ∧ k_ ≠ gb208 ∧ k_ ≠ gb220 ∧ k_ ≠ gb228)) k_ ∧ some k_ ≠ (.slice none 0 0 : Value).ownBlock) rfl rfl ?aO ?aR (fun _ hk => hk) ?aF ?aB ?aS ?aL ?_
                      (case aR => exact (by skip; exact Kd.V_F (Kd.V_mono (ok' := (fun k_ => ((fun k_ => ((P1_ k_ ∨ P2_ k_) ∨ w.heap.size ≤ k_) ∧ some k_ ≠ (.slice Ao30 t214.length co30 : Value).ownBlock ∧ some k_ ≠ (.slice Ao36 t222.length co36 : Value).ownBlock ∧ k_ ≠ gb208 ∧ k_ ≠ gb220 ∧ k_ ≠ gb228)) k_ ∧ some k_ ≠ (.slice none 0 0 : Value).ownBlock)) (HO_1.out) (fun k_ hk => ⟨⟨hk.1, ⟨hk.2.1, ⟨hk.2.2.1, ⟨hk.2.2.2.1, ⟨hk.2.2.2.2.1, hk.2.2.2.2.2⟩⟩⟩⟩⟩, (by simp [Value.ownBlock])⟩))))
                      (case aB => exact (by repeat (first | (with_reducible first | exact HB.out | apply below_alloc | apply pw_below_drewN | apply below_drew1 | refine below_set ?_ GE208.out | refine below_set ?_ GE220.out | refine below_set ?_ GE228.out) | exact HB.out)))
                      (case aF => exact (fun k_ hk => ⟨(.inr (Nat.le_trans (below_size (by repeat (first | (with_reducible first | exact HB.out | apply below_alloc | apply pw_below_drewN | apply below_drew1 | refine below_set ?_ GE208.out | refine below_set ?_ GE220.out | refine below_set ?_ GE228.out) | exact HB.out))) hk)), Kd.fresh' (Kd.N_lt (by (with_reducible repeat (first | apply Kd.N_alloc | apply Kd.N_drewN | apply Kd.N_drew)); exact HO216.out)) k_ hk, Kd.fresh' (Kd.N_lt (by (with_reducible repeat (first | apply Kd.N_alloc | apply Kd.N_drewN | apply Kd.N_drew)); exact HO224.out)) k_ hk, Kd.freshB (g := gb208) (o := .cells #[.int .i64 a0_0, .slice A0_1 l0_1.length c0_1, .bool a0_2] 24 (0, 0)) (by (with_reducible repeat (first | refine blk_drewN ?_ _ | refine blk_drew ?_ | refine blk_alloc ?_ _)); exact BK208.out) k_ hk, Kd.freshB (g := gb220) (o := .cells #[.int .i64 t213, .slice Ao30 t214.length co30, .bool t217] 24 (0, 0)) (by (with_reducible repeat (first | refine blk_drewN ?_ _ | refine blk_drew ?_ | refine blk_alloc ?_ _)); exact BK220.out) k_ hk, Kd.freshB (g := gb228) (o := .cells #[.int .i64 t221, .slice Ao36 t222.length co36, .bool t225] 24 (0, 0)) (by (with_reducible repeat (first | refine blk_drewN ?_ _ | refine blk_drew ?_ | refine blk_alloc ?_ _)); exact BK228.out) k_ hk⟩))
                      (case aO => exact ((Kd.N_nil _ _ _ _ (fun k_ => ((P1_ k_ ∨ P2_ k_) ∨ w.heap.size ≤ k_) ∧ some k_ ≠ (.slice Ao30 t214.length co30 : Value).ownBlock ∧ some k_ ≠ (.slice Ao36 t222.length co36 : Value).ownBlock ∧ k_ ≠ gb208 ∧ k_ ≠ gb220 ∧ k_ ≠ gb228))))
                      (case aS => exact (below_size (by repeat (first | (with_reducible first | exact HB.out | apply below_alloc | apply pw_below_drewN | apply below_drew1 | refine below_set ?_ GE208.out | refine below_set ?_ GE220.out | refine below_set ?_ GE228.out) | exact HB.out))))
                      (case aL => have := LMc18.out; omega)
                      intro v230 w39 ho hb hg hat
                      rw [← Ny229.out] at ho
                      have n0_ := Aside0.mk (Kd.V_afterv (Kd.V_apart_nil (by (with_reducible repeat (first | apply Kd.V_alloc | apply Kd.V_drewN | apply Kd.V_drew)); exact HO_1.out)) hg hat)
                      have n1_ := Aside0.mk (Kd.V_afterv (Kd.V_apart_nil (by (with_reducible repeat (first | apply Kd.V_alloc | apply Kd.V_drewN | apply Kd.V_drew)); exact HO_2.out)) hg hat)
                      have n2_ := Aside0.mk (blk_grown (g := gb208) (o := .cells #[.int .i64 a0_0, .slice A0_1 l0_1.length c0_1, .bool a0_2] 24 (0, 0)) (by (with_reducible repeat (first | refine blk_drewN ?_ _ | refine blk_drew ?_ | refine blk_alloc ?_ _)); exact BK208.out) hg (by simp [Value.ownBlock]))
                      have n3_ := Aside0.mk (Kd.N_afterv (Kd.N_apart_nil (by (with_reducible repeat (first | apply Kd.N_alloc | apply Kd.N_drewN | apply Kd.N_drew)); exact HO216.out)) hg hat)
                      have n4_ := Aside0.mk (blk_grown (g := gb220) (o := .cells #[.int .i64 t213, .slice Ao30 t214.length co30, .bool t217] 24 (0, 0)) (by (with_reducible repeat (first | refine blk_drewN ?_ _ | refine blk_drew ?_ | refine blk_alloc ?_ _)); exact BK220.out) hg (by simp [Value.ownBlock]))
                      have n5_ := Aside0.mk (Kd.N_afterv (Kd.N_apart_nil (by (with_reducible repeat (first | apply Kd.N_alloc | apply Kd.N_drewN | apply Kd.N_drew)); exact HO224.out)) hg hat)
                      have n6_ := Aside0.mk (blk_grown (g := gb228) (o := .cells #[.int .i64 t221, .slice Ao36 t222.length co36, .bool t225] 24 (0, 0)) (by (with_reducible repeat (first | refine blk_drewN ?_ _ | refine blk_drew ?_ | refine blk_alloc ?_ _)); exact BK228.out) hg (by simp [Value.ownBlock]))
                      have n7_ := Aside0.mk (hb)
                      have n8_ := Aside0.mk (ho)
                      clear HO_1
                      clear HO_2
                      clear BK208
                      clear HO216
                      clear BK220
                      clear HO224
                      clear BK228
                      clear HB
                      have HO_1 := n0_
                      have HO_2 := n1_
                      have BK208 := n2_
                      have HO216 := n3_
                      have BK220 := n4_
                      have HO224 := n5_
                      have BK228 := n6_
                      have HB := n7_
                      have HO231 := n8_
                      clear n0_ n1_ n2_ n3_ n4_ n5_ n6_ n7_ n8_
                      clear ho hb hg hat
                      refine hK.out _ _ ⟨(blk_cell BK208.out 0).trans rfl, (blk_cell BK208.out 1).trans rfl, (blk_cell BK208.out 2).trans rfl⟩ (fun hHeld => ?_)
                      clear hK K
                      refine norm_ (a' := ?_) ?_ ?_
                      rotate_left
                      · show Act.put _ (some 60) _ = _
                        simp only [Act.put, List.setIfInBounds_toArray, List.set_cons_zero, List.set_cons_succ, i64_w, i32_w]
                        rfl
                      refine two_ (i := 4) (j := 10) (Ni := some 62) (Nj := some 17) #[true, true, true, true, true, false, false, false, false, false, false, false, false, false] #[true, true, true, true, false, false, false, false, false, false, true, false, false, false] rfl rfl rfl rfl (two_of HT_.out (by kernel_rfl)) (by decide) (by decide) (fun K hK => ?_) (fun K hK => ?_)
                      · skip
                        refine Kd.N_append_rows_step (Kd.slice 5 (Kd.int .u8)) (w0 := w) w.heap.size (by rfl) (.tmp 60) (.tmp 61) 22 25 (.slice none 0 0) 24 rfl Try.underlying22 info25 rfl (by decide) (by omega) v230 y229 l2 _ _ _ (fun k_ => ((P1_ k_ ∨ P2_ k_) ∨ w.heap.size ≤ k_) ∧ some k_ ≠ (.slice Ao30 t214.length co30 : Value).ownBlock ∧ some k_ ≠ (.slice Ao36 t222.length co36 : Value).ownBlock ∧ k_ ≠ gb208 ∧ k_ ≠ gb220 ∧ k_ ≠ gb228) (fun k_ => ((fun k_ => ((P1_ k_ ∨ P2_ k_) ∨ w.heap.size ≤ k_) ∧ some k_ ≠ (.slice Ao30 t214.length co30 : Value).ownBlock ∧ some k_ ≠ (.slice Ao36 t222.length co36 : Value).ownBlock ∧ k_ ≠ gb208 ∧ k_ ≠ gb220 ∧ k_ ≠ gb228)) k_ ∧ some k_ ≠ (v230 : Value).ownBlock) rfl rfl ?aO ?aR (fun _ hk => hk) ?aF ?aB ?aS ?aL ?_
                        (case aR => exact (by skip; exact Kd.V_F (Kd.V_mono (ok' := (fun k_ => ((fun k_ => ((P1_ k_ ∨ P2_ k_) ∨ w.heap.size ≤ k_) ∧ some k_ ≠ (.slice Ao30 t214.length co30 : Value).ownBlock ∧ some k_ ≠ (.slice Ao36 t222.length co36 : Value).ownBlock ∧ k_ ≠ gb208 ∧ k_ ≠ gb220 ∧ k_ ≠ gb228)) k_ ∧ some k_ ≠ (v230 : Value).ownBlock)) (HO_2.out) (fun k_ hk => ⟨⟨hk.1.1, ⟨hk.1.2.1, ⟨hk.1.2.2.1, ⟨hk.1.2.2.2.1, ⟨hk.1.2.2.2.2.1, hk.1.2.2.2.2.2⟩⟩⟩⟩⟩, hk.2⟩))))
                        (case aB => exact (by repeat (first | (with_reducible first | exact HB.out | apply below_alloc | apply pw_below_drewN | apply below_drew1 | refine below_set ?_ GE208.out | refine below_set ?_ GE220.out | refine below_set ?_ GE228.out) | exact HB.out)))
                        (case aF => exact (fun k_ hk => ⟨(.inr (Nat.le_trans (below_size (by repeat (first | (with_reducible first | exact HB.out | apply below_alloc | apply pw_below_drewN | apply below_drew1 | refine below_set ?_ GE208.out | refine below_set ?_ GE220.out | refine below_set ?_ GE228.out) | exact HB.out))) hk)), Kd.fresh' (Kd.N_lt (by (with_reducible repeat (first | apply Kd.N_alloc | apply Kd.N_drewN | apply Kd.N_drew)); exact HO216.out)) k_ hk, Kd.fresh' (Kd.N_lt (by (with_reducible repeat (first | apply Kd.N_alloc | apply Kd.N_drewN | apply Kd.N_drew)); exact HO224.out)) k_ hk, Kd.freshB (g := gb208) (o := .cells #[.int .i64 a0_0, .slice A0_1 l0_1.length c0_1, .bool a0_2] 24 (0, 0)) (by (with_reducible repeat (first | refine blk_drewN ?_ _ | refine blk_drew ?_ | refine blk_alloc ?_ _)); exact BK208.out) k_ hk, Kd.freshB (g := gb220) (o := .cells #[.int .i64 t213, .slice Ao30 t214.length co30, .bool t217] 24 (0, 0)) (by (with_reducible repeat (first | refine blk_drewN ?_ _ | refine blk_drew ?_ | refine blk_alloc ?_ _)); exact BK220.out) k_ hk, Kd.freshB (g := gb228) (o := .cells #[.int .i64 t221, .slice Ao36 t222.length co36, .bool t225] 24 (0, 0)) (by (with_reducible repeat (first | refine blk_drewN ?_ _ | refine blk_drew ?_ | refine blk_alloc ?_ _)); exact BK228.out) k_ hk⟩))
                        (case aO => exact (by (with_reducible repeat (first | apply Kd.N_alloc | apply Kd.N_drewN | apply Kd.N_drew)); exact HO231.out))
                        (case aS => exact (below_size (by repeat (first | (with_reducible first | exact HB.out | apply below_alloc | apply pw_below_drewN | apply below_drew1 | refine below_set ?_ GE208.out | refine below_set ?_ GE220.out | refine below_set ?_ GE228.out) | exact HB.out))))
                        (case aL => have := LMc19.out; omega)
                        intro v233 w40 ho hb hg hat
                        rw [← Ny232.out] at ho
                        have n0_ := Aside0.mk (Kd.V_afterv (ok := (fun k_ => ((P1_ k_ ∨ P2_ k_) ∨ w.heap.size ≤ k_) ∧ some k_ ≠ (.slice Ao30 t214.length co30 : Value).ownBlock ∧ some k_ ≠ (.slice Ao36 t222.length co36 : Value).ownBlock ∧ k_ ≠ gb208 ∧ k_ ≠ gb220 ∧ k_ ≠ gb228)) (by (with_reducible repeat (first | apply Kd.V_alloc | apply Kd.V_drewN | apply Kd.V_drew)); exact HO_1.out) hg hat)
                        have n1_ := Aside0.mk (Kd.V_afterv (ok := (fun k_ => ((P1_ k_ ∨ P2_ k_) ∨ w.heap.size ≤ k_) ∧ some k_ ≠ (.slice Ao30 t214.length co30 : Value).ownBlock ∧ some k_ ≠ (.slice Ao36 t222.length co36 : Value).ownBlock ∧ k_ ≠ gb208 ∧ k_ ≠ gb220 ∧ k_ ≠ gb228)) (by (with_reducible repeat (first | apply Kd.V_alloc | apply Kd.V_drewN | apply Kd.V_drew)); exact HO_2.out) hg hat)
                        have n2_ := Aside0.mk (blk_grown (g := gb208) (o := .cells #[.int .i64 a0_0, .slice A0_1 l0_1.length c0_1, .bool a0_2] 24 (0, 0)) (by (with_reducible repeat (first | refine blk_drewN ?_ _ | refine blk_drew ?_ | refine blk_alloc ?_ _)); exact BK208.out) hg (Kd.N_ne HO231.out BK208.out (by decide)))
                        have n3_ := Aside0.mk (Kd.N_afterv (ok := (fun k_ => ((P1_ k_ ∨ P2_ k_) ∨ w.heap.size ≤ k_) ∧ some k_ ≠ (.slice Ao36 t222.length co36 : Value).ownBlock ∧ k_ ≠ gb208 ∧ k_ ≠ gb220 ∧ k_ ≠ gb228)) (by (with_reducible repeat (first | apply Kd.N_alloc | apply Kd.N_drewN | apply Kd.N_drew)); exact HO216.out) hg hat)
                        have n4_ := Aside0.mk (blk_grown (g := gb220) (o := .cells #[.int .i64 t213, .slice Ao30 t214.length co30, .bool t217] 24 (0, 0)) (by (with_reducible repeat (first | refine blk_drewN ?_ _ | refine blk_drew ?_ | refine blk_alloc ?_ _)); exact BK220.out) hg (Kd.N_ne HO231.out BK220.out (by decide)))
                        have n5_ := Aside0.mk (Kd.N_afterv (ok := (fun k_ => ((P1_ k_ ∨ P2_ k_) ∨ w.heap.size ≤ k_) ∧ some k_ ≠ (.slice Ao30 t214.length co30 : Value).ownBlock ∧ k_ ≠ gb208 ∧ k_ ≠ gb220 ∧ k_ ≠ gb228)) (by (with_reducible repeat (first | apply Kd.N_alloc | apply Kd.N_drewN | apply Kd.N_drew)); exact HO224.out) hg hat)
                        have n6_ := Aside0.mk (blk_grown (g := gb228) (o := .cells #[.int .i64 t221, .slice Ao36 t222.length co36, .bool t225] 24 (0, 0)) (by (with_reducible repeat (first | refine blk_drewN ?_ _ | refine blk_drew ?_ | refine blk_alloc ?_ _)); exact BK228.out) hg (Kd.N_ne HO231.out BK228.out (by decide)))
                        have n7_ := Aside0.mk (hb)
                        have n8_ := Aside0.mk (ho)
                        clear HO_1
                        clear HO_2
                        clear BK208
                        clear HO216
                        clear BK220
                        clear HO224
                        clear BK228
                        clear HB
                        clear HO231
                        have HO_1 := n0_
                        have HO_2 := n1_
                        have BK208 := n2_
                        have HO216 := n3_
                        have BK220 := n4_
                        have HO224 := n5_
                        have BK228 := n6_
                        have HB := n7_
                        have HO234 := n8_
                        clear n0_ n1_ n2_ n3_ n4_ n5_ n6_ n7_ n8_
                        clear ho hb hg hat
                        obtain ⟨Ao41, co41, eo41⟩ := Kd.N_slice HO234.out
                        (first | subst eo41 | (injection eo41 with f1_ f2_ f3_; have f4_ := f1_.symm; have f5_ := f3_.symm; clear f1_ f2_ f3_; subst f4_; subst f5_))
                        refine hK.out _ _ ⟨(blk_cell BK208.out 0).trans rfl, (blk_cell BK208.out 1).trans rfl, (blk_cell BK208.out 2).trans rfl⟩ (fun hHeld => ?_)
                        clear hK K
                        refine norm_ (a' := ?_) ?_ ?_
                        rotate_left
                        · show Act.put _ (some 62) _ = _
                          simp only [Act.put, List.setIfInBounds_toArray, List.set_cons_zero, List.set_cons_succ, i64_w, i32_w]
                          rfl
                        refine two_ (i := 5) (j := 10) (Ni := some 63) (Nj := some 17) #[true, true, true, true, true, true, false, false, false, false, false, false, false, false] #[true, true, true, true, true, false, false, false, false, false, true, false, false, false] rfl rfl rfl rfl (two_of HT_.out (by kernel_rfl)) (by decide) (by decide) (fun K hK => ?_) (fun K hK => ?_)
                        · skip
                          refine goes_ Try.func15 (by kernel_rfl) rfl #[.agg #[.int .i64 a0_0, .slice A0_1 l0_1.length c0_1, .bool a0_2], .slice Ao41 y232.length co41] (by rfl) rfl rfl (by (try simp only [List.map_toArray, List.map_cons, List.map_nil]); first | done | rfl | (simp only [List.length_drop, List.length_take]; rfl)) ?_
                          with_reducible refine (tape_Fill.calls a0_0 _ _ l0_1 a0_2 _ _ y232 t235 t236 t239 t240 t241 _ ?side1 ?side2 ?side3 ?side4 A20.out).mono ?_
                          (case side1 => repeat (first | exact (Kd.C_below HR0_1.out HB.out) | (with_reducible refine Kd.C_alloc ?_ _) | (with_reducible refine Kd.C_drewN ?_ _) | (with_reducible refine Kd.C_drew ?_)))
                          (case side2 => exact HC0_1.out)
                          (case side3 => repeat (first | exact (Kd.N_reads' HO234.out).2.2 | (with_reducible refine Kd.C_alloc ?_ _) | (with_reducible refine Kd.C_drewN ?_ _) | (with_reducible refine Kd.C_drew ?_)))
                          (case side4 => exact (Kd.N_reads' HO234.out).2.1)
                          rintro e w42 ⟨v237, rfl, ho0, hb⟩
                          refine ⟨_, rfl, ?_⟩
                          have n0_ := Aside0.mk (Kd.V_elder' (by (with_reducible repeat (first | apply Kd.V_alloc | apply Kd.V_drewN | apply Kd.V_drew)); exact HO_1.out) (by first | exact Kd.N_base ho0 | exact Kd.S_base ho0 | exact Kd.R_base ho0) hb)
                          have n1_ := Aside0.mk (Kd.V_elder' (by (with_reducible repeat (first | apply Kd.V_alloc | apply Kd.V_drewN | apply Kd.V_drew)); exact HO_2.out) (by first | exact Kd.N_base ho0 | exact Kd.S_base ho0 | exact Kd.R_base ho0) hb)
                          have n2_ := Aside0.mk (Kd.N_elder' (by (with_reducible repeat (first | apply Kd.N_alloc | apply Kd.N_drewN | apply Kd.N_drew)); exact HO216.out) (by first | exact Kd.N_base ho0 | exact Kd.S_base ho0 | exact Kd.R_base ho0) hb)
                          have n3_ := Aside0.mk (Kd.N_elder' (by (with_reducible repeat (first | apply Kd.N_alloc | apply Kd.N_drewN | apply Kd.N_drew)); exact HO224.out) (by first | exact Kd.N_base ho0 | exact Kd.S_base ho0 | exact Kd.R_base ho0) hb)
                          have n4_ := Aside0.mk (Kd.N_elder' (by (with_reducible repeat (first | apply Kd.N_alloc | apply Kd.N_drewN | apply Kd.N_drew)); exact HO234.out) (by first | exact Kd.N_base ho0 | exact Kd.S_base ho0 | exact Kd.R_base ho0) hb)
                          have n5_ := Aside0.mk (Kd.N_lower (Kd.N_mono (ok' := fun k_ => ((P1_ k_ ∨ P2_ k_) ∨ w.heap.size ≤ k_) ∧ some k_ ≠ (.slice Ao30 t214.length co30 : Value).ownBlock ∧ some k_ ≠ (.slice Ao36 t222.length co36 : Value).ownBlock ∧ some k_ ≠ (.slice Ao41 y232.length co41 : Value).ownBlock ∧ k_ ≠ gb208 ∧ k_ ≠ gb220 ∧ k_ ≠ gb228) (Kd.S_N (Kd.S_bound ho0)) (fun k_ hk_ => ⟨(.inr (Nat.le_trans (below_size (by repeat (first | (with_reducible first | exact HB.out | apply below_alloc | apply pw_below_drewN | apply below_drew1 | refine below_set ?_ GE208.out | refine below_set ?_ GE220.out | refine below_set ?_ GE228.out) | exact HB.out))) hk_.2.1)), (Kd.fresh' (Kd.N_lt (by (with_reducible repeat (first | apply Kd.N_alloc | apply Kd.N_drewN | apply Kd.N_drew)); exact HO216.out)) k_ hk_.2.1), (Kd.fresh' (Kd.N_lt (by (with_reducible repeat (first | apply Kd.N_alloc | apply Kd.N_drewN | apply Kd.N_drew)); exact HO224.out)) k_ hk_.2.1), (Kd.fresh' (Kd.N_lt (by (with_reducible repeat (first | apply Kd.N_alloc | apply Kd.N_drewN | apply Kd.N_drew)); exact HO234.out)) k_ hk_.2.1), (Kd.freshB (g := gb208) (o := .cells #[.int .i64 a0_0, .slice A0_1 l0_1.length c0_1, .bool a0_2] 24 (0, 0)) (by (with_reducible repeat (first | refine blk_drewN ?_ _ | refine blk_drew ?_ | refine blk_alloc ?_ _)); exact BK208.out) k_ hk_.2.1), (Kd.freshB (g := gb220) (o := .cells #[.int .i64 t213, .slice Ao30 t214.length co30, .bool t217] 24 (0, 0)) (by (with_reducible repeat (first | refine blk_drewN ?_ _ | refine blk_drew ?_ | refine blk_alloc ?_ _)); exact BK220.out) k_ hk_.2.1), (Kd.freshB (g := gb228) (o := .cells #[.int .i64 t221, .slice Ao36 t222.length co36, .bool t225] 24 (0, 0)) (by (with_reducible repeat (first | refine blk_drewN ?_ _ | refine blk_drew ?_ | refine blk_alloc ?_ _)); exact BK228.out) k_ hk_.2.1)⟩)) (below_size (by repeat (first | (with_reducible first | exact HB.out | apply below_alloc | apply pw_below_drewN | apply below_drew1 | refine below_set ?_ GE208.out | refine below_set ?_ GE220.out | refine below_set ?_ GE228.out) | exact HB.out))))
                          have n6_ := Aside0.mk (blk_below (g := gb208) (o := .cells #[.int .i64 a0_0, .slice A0_1 l0_1.length c0_1, .bool a0_2] 24 (0, 0)) (by (with_reducible repeat (first | refine blk_drewN ?_ _ | refine blk_drew ?_ | refine blk_alloc ?_ _)); exact BK208.out) hb)
                          have n7_ := Aside0.mk (blk_below (g := gb220) (o := .cells #[.int .i64 t213, .slice Ao30 t214.length co30, .bool t217] 24 (0, 0)) (by (with_reducible repeat (first | refine blk_drewN ?_ _ | refine blk_drew ?_ | refine blk_alloc ?_ _)); exact BK220.out) hb)
                          have n8_ := Aside0.mk (blk_below (g := gb228) (o := .cells #[.int .i64 t221, .slice Ao36 t222.length co36, .bool t225] 24 (0, 0)) (by (with_reducible repeat (first | refine blk_drewN ?_ _ | refine blk_drew ?_ | refine blk_alloc ?_ _)); exact BK228.out) hb)
                          have n9_ := Aside0.mk (below_step (by repeat (first | (with_reducible first | exact HB.out | apply below_alloc | apply pw_below_drewN | apply below_drew1 | refine below_set ?_ GE208.out | refine below_set ?_ GE220.out | refine below_set ?_ GE228.out) | exact HB.out)) hb)
                          clear HO_1
                          clear HO_2
                          clear HO216
                          clear HO224
                          clear HO234
                          clear BK208
                          clear BK220
                          clear BK228
                          clear HB
                          have HO_1 := n0_
                          have HO_2 := n1_
                          have HO216 := n2_
                          have HO224 := n3_
                          have HO234 := n4_
                          have HO238 := n5_
                          have BK208 := n6_
                          have BK220 := n7_
                          have BK228 := n8_
                          have HB := n9_
                          clear n0_ n1_ n2_ n3_ n4_ n5_ n6_ n7_ n8_ n9_
                          (try clear hb)
                          (try clear hb2)
                          (try clear hk)
                          (try clear hi)
                          (try clear ho0)
                          refine hK.out _ _ ⟨(blk_cell BK208.out 0).trans rfl, (blk_cell BK208.out 1).trans rfl, (blk_cell BK208.out 2).trans rfl⟩ (fun hHeld => ?_)
                          clear hK K
                          refine norm_ (a' := ?_) ?_ ?_
                          rotate_left
                          · show Act.put _ (some 63) _ = _
                            simp only [Act.put, List.setIfInBounds_toArray, List.set_cons_zero, List.set_cons_succ, i64_w, i32_w]
                            rfl
                          refine pure_ (i := 6) (N := some 57) (v := ?_) (a' := ?_) #[true, true, true, true, true, true, true, false, false, false, false, false, false, false] rfl rfl (any_of HT_.out (by kernel_rfl)) (fun _ _ _ h => h) (Or.inl ⟨by rfl, ?_⟩) ?_ ?_
                          rotate_left
                          · intro w'
                            go_simp
                            with_reducible rfl
                          rotate_left
                          · simp only [Act.put, List.setIfInBounds_toArray, List.set_cons_zero, List.set_cons_succ, i64_w, i32_w]
                            rfl
                          refine pure_ (i := 7) (N := some 64) (v := ?_) (a' := ?_) #[true, true, true, true, true, true, true, true, false, false, false, false, false, false] rfl rfl (any_of HT_.out (by kernel_rfl)) (fun _ _ _ h => h) (Or.inl ⟨by rfl, ?_⟩) ?_ ?_
                          rotate_left
                          · intro w'
                            go_simp
                            with_reducible rfl
                          rotate_left
                          · simp only [Act.put, List.setIfInBounds_toArray, List.set_cons_zero, List.set_cons_succ, i64_w, i32_w]
                            rfl
                          refine pure_ (i := 8) (N := some 65) (v := ?_) (a' := ?_) #[true, true, true, true, true, true, true, true, true, false, false, false, false, false] rfl rfl (any_of HT_.out (by kernel_rfl)) (fun _ _ _ h => h) (Or.inl ⟨by rfl, ?_⟩) ?_ ?_
                          rotate_left
                          · intro w'
                            go_simp
                            with_reducible rfl
                          rotate_left
                          · simp only [Act.put, List.setIfInBounds_toArray, List.set_cons_zero, List.set_cons_succ, i64_w, i32_w]
                            rfl
                          refine pure_ (i := 9) (N := some 66) (v := ?_) (a' := ?_) #[true, true, true, true, true, true, true, true, true, true, false, false, false, false] rfl rfl (any_of HT_.out (by kernel_rfl)) (fun _ _ _ h => h) (Or.inl ⟨by rfl, ?_⟩) ?_ ?_
                          rotate_left
                          · intro w'
                            go_simp
                            with_reducible rfl
                          rotate_left
                          · simp only [Act.put, List.setIfInBounds_toArray, List.set_cons_zero, List.set_cons_succ, i64_w, i32_w]
                            rfl
                          refine one_ (i := 10) (N := some 17) #[true, true, true, true, true, true, true, true, true, true, true, false, false, false] rfl rfl (one_of HT_.out (by kernel_rfl)) (by decide) (fun K hK => ?_)
                          refine box_step ?hg (N := 17) ?hd (cs := #[.int .i64 0, .slice none 0 0, .bool false]) (t := 24) ?hr ?_; (case hd => rfl); (case hg => rfl); (case hr => first | (go_simp; done) | (go_simp; rfl))
                          intro gb242 hg w43 hbox hb
                          have n0_ := Aside0.mk (Kd.V_below (Kd.V_elderB (by (with_reducible repeat (first | apply Kd.V_alloc | apply Kd.V_drewN | apply Kd.V_drew)); exact HO_1.out) gb242 (Nat.le_of_eq hg.symm)) hb)
                          have n1_ := Aside0.mk (Kd.V_below (Kd.V_elderB (by (with_reducible repeat (first | apply Kd.V_alloc | apply Kd.V_drewN | apply Kd.V_drew)); exact HO_2.out) gb242 (Nat.le_of_eq hg.symm)) hb)
                          have n2_ := Aside0.mk (Kd.N_below (Kd.N_elderB (by (with_reducible repeat (first | apply Kd.N_alloc | apply Kd.N_drewN | apply Kd.N_drew)); exact HO216.out) gb242 (Nat.le_of_eq hg.symm)) hb)
                          have n3_ := Aside0.mk (Kd.N_below (Kd.N_elderB (by (with_reducible repeat (first | apply Kd.N_alloc | apply Kd.N_drewN | apply Kd.N_drew)); exact HO224.out) gb242 (Nat.le_of_eq hg.symm)) hb)
                          have n4_ := Aside0.mk (Kd.N_below (Kd.N_elderB (by (with_reducible repeat (first | apply Kd.N_alloc | apply Kd.N_drewN | apply Kd.N_drew)); exact HO234.out) gb242 (Nat.le_of_eq hg.symm)) hb)
                          have n5_ := Aside0.mk (Kd.N_below (Kd.N_elderB (by (with_reducible repeat (first | apply Kd.N_alloc | apply Kd.N_drewN | apply Kd.N_drew)); exact HO238.out) gb242 (Nat.le_of_eq hg.symm)) hb)
                          have n6_ := Aside0.mk (blk_below (g := gb208) (o := .cells #[.int .i64 a0_0, .slice A0_1 l0_1.length c0_1, .bool a0_2] 24 (0, 0)) (by (with_reducible repeat (first | refine blk_drewN ?_ _ | refine blk_drew ?_ | refine blk_alloc ?_ _)); exact BK208.out) hb)
                          have n7_ := Aside0.mk (blk_below (g := gb220) (o := .cells #[.int .i64 t213, .slice Ao30 t214.length co30, .bool t217] 24 (0, 0)) (by (with_reducible repeat (first | refine blk_drewN ?_ _ | refine blk_drew ?_ | refine blk_alloc ?_ _)); exact BK220.out) hb)
                          have n8_ := Aside0.mk (blk_below (g := gb228) (o := .cells #[.int .i64 t221, .slice Ao36 t222.length co36, .bool t225] 24 (0, 0)) (by (with_reducible repeat (first | refine blk_drewN ?_ _ | refine blk_drew ?_ | refine blk_alloc ?_ _)); exact BK228.out) hb)
                          have n9_ := Aside0.mk (below_step (by repeat (first | (with_reducible first | exact HB.out | apply below_alloc | apply pw_below_drewN | apply below_drew1 | refine below_set ?_ GE208.out | refine below_set ?_ GE220.out | refine below_set ?_ GE228.out) | exact HB.out)) hb)
                          have n10_ := Aside0.mk (hbox)
                          have n11_ := Aside0.mk ((by rw [hg]; exact (below_size (by repeat (first | (with_reducible first | exact HB.out | apply below_alloc | apply pw_below_drewN | apply below_drew1 | refine below_set ?_ GE208.out | refine below_set ?_ GE220.out | refine below_set ?_ GE228.out) | exact HB.out))) : w.heap.size ≤ gb242))
                          have n12_ := Aside0.mk ((by rw [hg]; exact (below_size (by repeat (first | (with_reducible first | exact HB.out | apply below_alloc | apply pw_below_drewN | apply below_drew1 | refine below_set ?_ GE208.out | refine below_set ?_ GE220.out | refine below_set ?_ GE228.out) | exact HB.out))) : w.heap.size ≤ gb242))
                          have n13_ := Aside0.mk ((by rw [hg]; exact Nat.ne_of_lt (blk_lt (g := gb208) (o := .cells #[.int .i64 a0_0, .slice A0_1 l0_1.length c0_1, .bool a0_2] 24 (0, 0)) (by (with_reducible repeat (first | refine blk_drewN ?_ _ | refine blk_drew ?_ | refine blk_alloc ?_ _)); exact BK208.out)) : gb208 ≠ gb242))
                          have n14_ := Aside0.mk ((by rw [hg]; exact Nat.ne_of_gt (blk_lt (g := gb208) (o := .cells #[.int .i64 a0_0, .slice A0_1 l0_1.length c0_1, .bool a0_2] 24 (0, 0)) (by (with_reducible repeat (first | refine blk_drewN ?_ _ | refine blk_drew ?_ | refine blk_alloc ?_ _)); exact BK208.out)) : gb242 ≠ gb208))
                          have n15_ := Aside0.mk ((by rw [hg]; exact Nat.ne_of_lt (blk_lt (g := gb220) (o := .cells #[.int .i64 t213, .slice Ao30 t214.length co30, .bool t217] 24 (0, 0)) (by (with_reducible repeat (first | refine blk_drewN ?_ _ | refine blk_drew ?_ | refine blk_alloc ?_ _)); exact BK220.out)) : gb220 ≠ gb242))
                          have n16_ := Aside0.mk ((by rw [hg]; exact Nat.ne_of_gt (blk_lt (g := gb220) (o := .cells #[.int .i64 t213, .slice Ao30 t214.length co30, .bool t217] 24 (0, 0)) (by (with_reducible repeat (first | refine blk_drewN ?_ _ | refine blk_drew ?_ | refine blk_alloc ?_ _)); exact BK220.out)) : gb242 ≠ gb220))
                          have n17_ := Aside0.mk ((by rw [hg]; exact Nat.ne_of_lt (blk_lt (g := gb228) (o := .cells #[.int .i64 t221, .slice Ao36 t222.length co36, .bool t225] 24 (0, 0)) (by (with_reducible repeat (first | refine blk_drewN ?_ _ | refine blk_drew ?_ | refine blk_alloc ?_ _)); exact BK228.out)) : gb228 ≠ gb242))
                          have n18_ := Aside0.mk ((by rw [hg]; exact Nat.ne_of_gt (blk_lt (g := gb228) (o := .cells #[.int .i64 t221, .slice Ao36 t222.length co36, .bool t225] 24 (0, 0)) (by (with_reducible repeat (first | refine blk_drewN ?_ _ | refine blk_drew ?_ | refine blk_alloc ?_ _)); exact BK228.out)) : gb242 ≠ gb228))
                          clear HO_1
                          clear HO_2
                          clear HO216
                          clear HO224
                          clear HO234
                          clear HO238
                          clear BK208
                          clear BK220
                          clear BK228
                          clear HB
                          have HO_1 := n0_
                          have HO_2 := n1_
                          have HO216 := n2_
                          have HO224 := n3_
                          have HO234 := n4_
                          have HO238 := n5_
                          have BK208 := n6_
                          have BK220 := n7_
                          have BK228 := n8_
                          have HB := n9_
                          have BK242 := n10_
                          have GW242 := n11_
                          have GE242 := n12_
                          have NB208_242 := n13_
                          have NB242_208 := n14_
                          have NB220_242 := n15_
                          have NB242_220 := n16_
                          have NB228_242 := n17_
                          have NB242_228 := n18_
                          clear n0_ n1_ n2_ n3_ n4_ n5_ n6_ n7_ n8_ n9_ n10_ n11_ n12_ n13_ n14_ n15_ n16_ n17_ n18_
                          clear hb hbox hg
                          refine hK.out _ _ ⟨(blk_cell BK208.out 0).trans rfl, (blk_cell BK208.out 1).trans rfl, (blk_cell BK208.out 2).trans rfl⟩ (fun hHeld => ?_)
                          clear hK K
                          refine norm_ (a' := ?_) ?_ ?_
                          rotate_left
                          · show Act.put _ (some 17) _ = _
                            simp only [Act.put, List.setIfInBounds_toArray, List.set_cons_zero, List.set_cons_succ, i64_w, i32_w]
                            rfl
                          exact norm_ (by simp only [putAll, Act.put, List.setIfInBounds_toArray, List.set_cons_zero, List.set_cons_succ]) (hCont (v230, .slice Ao41 y232.length co41, v237, gb242) _ ⟨hHeld, (by (with_reducible repeat (first | apply Kd.N_alloc | apply Kd.N_drewN | apply Kd.N_drew)); exact Kd.N_mono HO216.out (fun _ hk => ⟨hk.1.1.1.1, ⟨hk.1.1.1.2.1, ⟨hk.1.1.2, ⟨hk.1.2, ⟨hk.1.1.1.2.2.1, ⟨hk.1.1.1.2.2.2.1, ⟨hk.1.1.1.2.2.2.2, hk.2⟩⟩⟩⟩⟩⟩⟩)), (by (with_reducible repeat (first | apply Kd.N_alloc | apply Kd.N_drewN | apply Kd.N_drew)); exact Kd.N_mono HO224.out (fun _ hk => ⟨hk.1.1.1.1, ⟨hk.1.1.1.2.1, ⟨hk.1.1.2, ⟨hk.1.2, ⟨hk.1.1.1.2.2.1, ⟨hk.1.1.1.2.2.2.1, ⟨hk.1.1.1.2.2.2.2, hk.2⟩⟩⟩⟩⟩⟩⟩)), (by (with_reducible repeat (first | apply Kd.N_alloc | apply Kd.N_drewN | apply Kd.N_drew)); exact Kd.N_mono HO234.out (fun _ hk => ⟨hk.1.1.1, ⟨hk.1.1.2.1, ⟨hk.1.1.2.2.1, ⟨hk.1.2, ⟨hk.1.1.2.2.2.1, ⟨hk.1.1.2.2.2.2.1, ⟨hk.1.1.2.2.2.2.2, hk.2⟩⟩⟩⟩⟩⟩⟩)), (by (with_reducible repeat (first | apply Kd.N_alloc | apply Kd.N_drewN | apply Kd.N_drew)); exact Kd.N_mono HO238.out (fun _ hk => ⟨hk.1.1, ⟨hk.1.2.1, ⟨hk.1.2.2.1, ⟨hk.1.2.2.2.1, ⟨hk.1.2.2.2.2.1, ⟨hk.1.2.2.2.2.2.1, ⟨hk.1.2.2.2.2.2.2, hk.2⟩⟩⟩⟩⟩⟩⟩)), (by (with_reducible repeat (first | apply Kd.V_alloc | apply Kd.V_drewN | apply Kd.V_drew)); exact Kd.V_mono HO_1.out (fun _ hk => ⟨hk.1.1.1.1, ⟨hk.1.1.1.2.1, ⟨hk.1.1.1.2.2.1, ⟨hk.1.1.2, ⟨hk.1.2, ⟨hk.1.1.1.2.2.2.1, ⟨hk.1.1.1.2.2.2.2.1, ⟨hk.1.1.1.2.2.2.2.2, hk.2⟩⟩⟩⟩⟩⟩⟩⟩)), (by (with_reducible repeat (first | apply Kd.V_alloc | apply Kd.V_drewN | apply Kd.V_drew)); exact Kd.V_mono HO_2.out (fun _ hk => ⟨hk.1.1.1.1, ⟨hk.1.1.1.2.1, ⟨hk.1.1.1.2.2.1, ⟨hk.1.1.2, ⟨hk.1.2, ⟨hk.1.1.1.2.2.2.1, ⟨hk.1.1.1.2.2.2.2.1, ⟨hk.1.1.1.2.2.2.2.2, hk.2⟩⟩⟩⟩⟩⟩⟩⟩)), (by (with_reducible repeat (first | refine blk_drewN ?_ _ | refine blk_drew ?_ | refine blk_alloc ?_ _)); exact BK208.out), (by (with_reducible repeat (first | refine blk_drewN ?_ _ | refine blk_drew ?_ | refine blk_alloc ?_ _)); exact BK220.out), (by (with_reducible repeat (first | refine blk_drewN ?_ _ | refine blk_drew ?_ | refine blk_alloc ?_ _)); exact BK228.out), (by (with_reducible repeat (first | refine blk_drewN ?_ _ | refine blk_drew ?_ | refine blk_alloc ?_ _)); exact BK242.out), GW242.out, GE242.out, NB208_242.out, NB242_208.out, NB220_242.out, NB242_220.out, NB228_242.out, NB242_228.out, (by repeat (first | (with_reducible first | exact HB.out | apply below_alloc | apply pw_below_drewN | apply below_drew1 | refine below_set ?_ GE208.out | refine below_set ?_ GE220.out | refine below_set ?_ GE228.out | refine below_set ?_ GE242.out) | exact HB.out))⟩)
                        · skip
                          refine box_step ?hg (N := 17) ?hd (cs := #[.int .i64 0, .slice none 0 0, .bool false]) (t := 24) ?hr ?_; (case hd => rfl); (case hg => rfl); (case hr => first | (go_simp; done) | (go_simp; rfl))
                          intro gb242 hg w41 hbox hb
                          have n0_ := Aside0.mk (Kd.V_below (Kd.V_elderB (by (with_reducible repeat (first | apply Kd.V_alloc | apply Kd.V_drewN | apply Kd.V_drew)); exact HO_1.out) gb242 (Nat.le_of_eq hg.symm)) hb)
                          have n1_ := Aside0.mk (Kd.V_below (Kd.V_elderB (by (with_reducible repeat (first | apply Kd.V_alloc | apply Kd.V_drewN | apply Kd.V_drew)); exact HO_2.out) gb242 (Nat.le_of_eq hg.symm)) hb)
                          have n2_ := Aside0.mk (Kd.N_below (Kd.N_elderB (by (with_reducible repeat (first | apply Kd.N_alloc | apply Kd.N_drewN | apply Kd.N_drew)); exact HO216.out) gb242 (Nat.le_of_eq hg.symm)) hb)
                          have n3_ := Aside0.mk (Kd.N_below (Kd.N_elderB (by (with_reducible repeat (first | apply Kd.N_alloc | apply Kd.N_drewN | apply Kd.N_drew)); exact HO224.out) gb242 (Nat.le_of_eq hg.symm)) hb)
                          have n4_ := Aside0.mk (Kd.N_below (Kd.N_elderB (by (with_reducible repeat (first | apply Kd.N_alloc | apply Kd.N_drewN | apply Kd.N_drew)); exact HO234.out) gb242 (Nat.le_of_eq hg.symm)) hb)
                          have n5_ := Aside0.mk (blk_below (g := gb208) (o := .cells #[.int .i64 a0_0, .slice A0_1 l0_1.length c0_1, .bool a0_2] 24 (0, 0)) (by (with_reducible repeat (first | refine blk_drewN ?_ _ | refine blk_drew ?_ | refine blk_alloc ?_ _)); exact BK208.out) hb)
                          have n6_ := Aside0.mk (blk_below (g := gb220) (o := .cells #[.int .i64 t213, .slice Ao30 t214.length co30, .bool t217] 24 (0, 0)) (by (with_reducible repeat (first | refine blk_drewN ?_ _ | refine blk_drew ?_ | refine blk_alloc ?_ _)); exact BK220.out) hb)
                          have n7_ := Aside0.mk (blk_below (g := gb228) (o := .cells #[.int .i64 t221, .slice Ao36 t222.length co36, .bool t225] 24 (0, 0)) (by (with_reducible repeat (first | refine blk_drewN ?_ _ | refine blk_drew ?_ | refine blk_alloc ?_ _)); exact BK228.out) hb)
                          have n8_ := Aside0.mk (below_step (by repeat (first | (with_reducible first | exact HB.out | apply below_alloc | apply pw_below_drewN | apply below_drew1 | refine below_set ?_ GE208.out | refine below_set ?_ GE220.out | refine below_set ?_ GE228.out) | exact HB.out)) hb)
                          have n9_ := Aside0.mk (hbox)
                          have n10_ := Aside0.mk ((by rw [hg]; exact (below_size (by repeat (first | (with_reducible first | exact HB.out | apply below_alloc | apply pw_below_drewN | apply below_drew1 | refine below_set ?_ GE208.out | refine below_set ?_ GE220.out | refine below_set ?_ GE228.out) | exact HB.out))) : w.heap.size ≤ gb242))
                          have n11_ := Aside0.mk ((by rw [hg]; exact (below_size (by repeat (first | (with_reducible first | exact HB.out | apply below_alloc | apply pw_below_drewN | apply below_drew1 | refine below_set ?_ GE208.out | refine below_set ?_ GE220.out | refine below_set ?_ GE228.out) | exact HB.out))) : w.heap.size ≤ gb242))
                          have n12_ := Aside0.mk ((by rw [hg]; exact Nat.ne_of_lt (blk_lt (g := gb208) (o := .cells #[.int .i64 a0_0, .slice A0_1 l0_1.length c0_1, .bool a0_2] 24 (0, 0)) (by (with_reducible repeat (first | refine blk_drewN ?_ _ | refine blk_drew ?_ | refine blk_alloc ?_ _)); exact BK208.out)) : gb208 ≠ gb242))
                          have n13_ := Aside0.mk ((by rw [hg]; exact Nat.ne_of_gt (blk_lt (g := gb208) (o := .cells #[.int .i64 a0_0, .slice A0_1 l0_1.length c0_1, .bool a0_2] 24 (0, 0)) (by (with_reducible repeat (first | refine blk_drewN ?_ _ | refine blk_drew ?_ | refine blk_alloc ?_ _)); exact BK208.out)) : gb242 ≠ gb208))
                          have n14_ := Aside0.mk ((by rw [hg]; exact Nat.ne_of_lt (blk_lt (g := gb220) (o := .cells #[.int .i64 t213, .slice Ao30 t214.length co30, .bool t217] 24 (0, 0)) (by (with_reducible repeat (first | refine blk_drewN ?_ _ | refine blk_drew ?_ | refine blk_alloc ?_ _)); exact BK220.out)) : gb220 ≠ gb242))
                          have n15_ := Aside0.mk ((by rw [hg]; exact Nat.ne_of_gt (blk_lt (g := gb220) (o := .cells #[.int .i64 t213, .slice Ao30 t214.length co30, .bool t217] 24 (0, 0)) (by (with_reducible repeat (first | refine blk_drewN ?_ _ | refine blk_drew ?_ | refine blk_alloc ?_ _)); exact BK220.out)) : gb242 ≠ gb220))
                          have n16_ := Aside0.mk ((by rw [hg]; exact Nat.ne_of_lt (blk_lt (g := gb228) (o := .cells #[.int .i64 t221, .slice Ao36 t222.length co36, .bool t225] 24 (0, 0)) (by (with_reducible repeat (first | refine blk_drewN ?_ _ | refine blk_drew ?_ | refine blk_alloc ?_ _)); exact BK228.out)) : gb228 ≠ gb242))
                          have n17_ := Aside0.mk ((by rw [hg]; exact Nat.ne_of_gt (blk_lt (g := gb228) (o := .cells #[.int .i64 t221, .slice Ao36 t222.length co36, .bool t225] 24 (0, 0)) (by (with_reducible repeat (first | refine blk_drewN ?_ _ | refine blk_drew ?_ | refine blk_alloc ?_ _)); exact BK228.out)) : gb242 ≠ gb228))
                          clear HO_1
                          clear HO_2
                          clear HO216
                          clear HO224
                          clear HO234
                          clear BK208
                          clear BK220
                          clear BK228
                          clear HB
                          have HO_1 := n0_
                          have HO_2 := n1_
                          have HO216 := n2_
                          have HO224 := n3_
                          have HO234 := n4_
                          have BK208 := n5_
                          have BK220 := n6_
                          have BK228 := n7_
                          have HB := n8_
                          have BK242 := n9_
                          have GW242 := n10_
                          have GE242 := n11_
                          have NB208_242 := n12_
                          have NB242_208 := n13_
                          have NB220_242 := n14_
                          have NB242_220 := n15_
                          have NB228_242 := n16_
                          have NB242_228 := n17_
                          clear n0_ n1_ n2_ n3_ n4_ n5_ n6_ n7_ n8_ n9_ n10_ n11_ n12_ n13_ n14_ n15_ n16_ n17_
                          clear hb hbox hg
                          obtain ⟨Ao42, co42, eo42⟩ := Kd.N_slice HO234.out
                          (first | subst eo42 | (injection eo42 with f1_ f2_ f3_; have f4_ := f1_.symm; have f5_ := f3_.symm; clear f1_ f2_ f3_; subst f4_; subst f5_))
                          refine hK.out _ _ ⟨(blk_cell BK208.out 0).trans rfl, (blk_cell BK208.out 1).trans rfl, (blk_cell BK208.out 2).trans rfl⟩ (fun hHeld => ?_)
                          clear hK K
                          refine norm_ (a' := ?_) ?_ ?_
                          rotate_left
                          · show Act.put _ (some 17) _ = _
                            simp only [Act.put, List.setIfInBounds_toArray, List.set_cons_zero, List.set_cons_succ, i64_w, i32_w]
                            rfl
                          refine one_ (i := 5) (N := some 63) #[true, true, true, true, true, true, false, false, false, false, true, false, false, false] rfl rfl (one_of HT_.out (by kernel_rfl)) (by decide) (fun K hK => ?_)
                          refine goes_ Try.func15 (by kernel_rfl) rfl #[.agg #[.int .i64 a0_0, .slice A0_1 l0_1.length c0_1, .bool a0_2], .slice Ao42 y232.length co42] (by rfl) rfl rfl (by (try simp only [List.map_toArray, List.map_cons, List.map_nil]); first | done | rfl | (simp only [List.length_drop, List.length_take]; rfl)) ?_
                          with_reducible refine (tape_Fill.calls a0_0 _ _ l0_1 a0_2 _ _ y232 t235 t236 t239 t240 t241 _ ?side1 ?side2 ?side3 ?side4 A20.out).mono ?_
                          (case side1 => repeat (first | exact (Kd.C_below HR0_1.out HB.out) | (with_reducible refine Kd.C_alloc ?_ _) | (with_reducible refine Kd.C_drewN ?_ _) | (with_reducible refine Kd.C_drew ?_)))
                          (case side2 => exact HC0_1.out)
                          (case side3 => repeat (first | exact (Kd.N_reads' HO234.out).2.2 | (with_reducible refine Kd.C_alloc ?_ _) | (with_reducible refine Kd.C_drewN ?_ _) | (with_reducible refine Kd.C_drew ?_)))
                          (case side4 => exact (Kd.N_reads' HO234.out).2.1)
                          rintro e w43 ⟨v237, rfl, ho0, hb⟩
                          refine ⟨_, rfl, ?_⟩
                          have n0_ := Aside0.mk (Kd.V_elder' (by (with_reducible repeat (first | apply Kd.V_alloc | apply Kd.V_drewN | apply Kd.V_drew)); exact HO_1.out) (by first | exact Kd.N_base ho0 | exact Kd.S_base ho0 | exact Kd.R_base ho0) hb)
                          have n1_ := Aside0.mk (Kd.V_elder' (by (with_reducible repeat (first | apply Kd.V_alloc | apply Kd.V_drewN | apply Kd.V_drew)); exact HO_2.out) (by first | exact Kd.N_base ho0 | exact Kd.S_base ho0 | exact Kd.R_base ho0) hb)
                          have n2_ := Aside0.mk (Kd.N_elder' (by (with_reducible repeat (first | apply Kd.N_alloc | apply Kd.N_drewN | apply Kd.N_drew)); exact HO216.out) (by first | exact Kd.N_base ho0 | exact Kd.S_base ho0 | exact Kd.R_base ho0) hb)
                          have n3_ := Aside0.mk (Kd.N_elder' (by (with_reducible repeat (first | apply Kd.N_alloc | apply Kd.N_drewN | apply Kd.N_drew)); exact HO224.out) (by first | exact Kd.N_base ho0 | exact Kd.S_base ho0 | exact Kd.R_base ho0) hb)
                          have n4_ := Aside0.mk (Kd.N_elder' (by (with_reducible repeat (first | apply Kd.N_alloc | apply Kd.N_drewN | apply Kd.N_drew)); exact HO234.out) (by first | exact Kd.N_base ho0 | exact Kd.S_base ho0 | exact Kd.R_base ho0) hb)
                          have n5_ := Aside0.mk (Kd.N_lower (Kd.N_mono (ok' := fun k_ => ((P1_ k_ ∨ P2_ k_) ∨ w.heap.size ≤ k_) ∧ some k_ ≠ (.slice Ao30 t214.length co30 : Value).ownBlock ∧ some k_ ≠ (.slice Ao36 t222.length co36 : Value).ownBlock ∧ some k_ ≠ (.slice Ao42 y232.length co42 : Value).ownBlock ∧ k_ ≠ gb208 ∧ k_ ≠ gb220 ∧ k_ ≠ gb228 ∧ k_ ≠ gb242) (Kd.S_N (Kd.S_bound ho0)) (fun k_ hk_ => ⟨(.inr (Nat.le_trans (below_size (by repeat (first | (with_reducible first | exact HB.out | apply below_alloc | apply pw_below_drewN | apply below_drew1 | refine below_set ?_ GE208.out | refine below_set ?_ GE220.out | refine below_set ?_ GE228.out | refine below_set ?_ GE242.out) | exact HB.out))) hk_.2.1)), (Kd.fresh' (Kd.N_lt (by (with_reducible repeat (first | apply Kd.N_alloc | apply Kd.N_drewN | apply Kd.N_drew)); exact HO216.out)) k_ hk_.2.1), (Kd.fresh' (Kd.N_lt (by (with_reducible repeat (first | apply Kd.N_alloc | apply Kd.N_drewN | apply Kd.N_drew)); exact HO224.out)) k_ hk_.2.1), (Kd.fresh' (Kd.N_lt (by (with_reducible repeat (first | apply Kd.N_alloc | apply Kd.N_drewN | apply Kd.N_drew)); exact HO234.out)) k_ hk_.2.1), (Kd.freshB (g := gb208) (o := .cells #[.int .i64 a0_0, .slice A0_1 l0_1.length c0_1, .bool a0_2] 24 (0, 0)) (by (with_reducible repeat (first | refine blk_drewN ?_ _ | refine blk_drew ?_ | refine blk_alloc ?_ _)); exact BK208.out) k_ hk_.2.1), (Kd.freshB (g := gb220) (o := .cells #[.int .i64 t213, .slice Ao30 t214.length co30, .bool t217] 24 (0, 0)) (by (with_reducible repeat (first | refine blk_drewN ?_ _ | refine blk_drew ?_ | refine blk_alloc ?_ _)); exact BK220.out) k_ hk_.2.1), (Kd.freshB (g := gb228) (o := .cells #[.int .i64 t221, .slice Ao36 t222.length co36, .bool t225] 24 (0, 0)) (by (with_reducible repeat (first | refine blk_drewN ?_ _ | refine blk_drew ?_ | refine blk_alloc ?_ _)); exact BK228.out) k_ hk_.2.1), (Kd.freshB (g := gb242) (o := .cells #[.int .i64 0, .slice none 0 0, .bool false] 24 (0, 0)) (by (with_reducible repeat (first | refine blk_drewN ?_ _ | refine blk_drew ?_ | refine blk_alloc ?_ _)); exact BK242.out) k_ hk_.2.1)⟩)) (below_size (by repeat (first | (with_reducible first | exact HB.out | apply below_alloc | apply pw_below_drewN | apply below_drew1 | refine below_set ?_ GE208.out | refine below_set ?_ GE220.out | refine below_set ?_ GE228.out | refine below_set ?_ GE242.out) | exact HB.out))))
                          have n6_ := Aside0.mk (blk_below (g := gb208) (o := .cells #[.int .i64 a0_0, .slice A0_1 l0_1.length c0_1, .bool a0_2] 24 (0, 0)) (by (with_reducible repeat (first | refine blk_drewN ?_ _ | refine blk_drew ?_ | refine blk_alloc ?_ _)); exact BK208.out) hb)
                          have n7_ := Aside0.mk (blk_below (g := gb220) (o := .cells #[.int .i64 t213, .slice Ao30 t214.length co30, .bool t217] 24 (0, 0)) (by (with_reducible repeat (first | refine blk_drewN ?_ _ | refine blk_drew ?_ | refine blk_alloc ?_ _)); exact BK220.out) hb)
                          have n8_ := Aside0.mk (blk_below (g := gb228) (o := .cells #[.int .i64 t221, .slice Ao36 t222.length co36, .bool t225] 24 (0, 0)) (by (with_reducible repeat (first | refine blk_drewN ?_ _ | refine blk_drew ?_ | refine blk_alloc ?_ _)); exact BK228.out) hb)
                          have n9_ := Aside0.mk (blk_below (g := gb242) (o := .cells #[.int .i64 0, .slice none 0 0, .bool false] 24 (0, 0)) (by (with_reducible repeat (first | refine blk_drewN ?_ _ | refine blk_drew ?_ | refine blk_alloc ?_ _)); exact BK242.out) hb)
                          have n10_ := Aside0.mk (below_step (by repeat (first | (with_reducible first | exact HB.out | apply below_alloc | apply pw_below_drewN | apply below_drew1 | refine below_set ?_ GE208.out | refine below_set ?_ GE220.out | refine below_set ?_ GE228.out | refine below_set ?_ GE242.out) | exact HB.out)) hb)
                          clear HO_1
                          clear HO_2
                          clear HO216
                          clear HO224
                          clear HO234
                          clear BK208
                          clear BK220
                          clear BK228
                          clear BK242
                          clear HB
                          have HO_1 := n0_
                          have HO_2 := n1_
                          have HO216 := n2_
                          have HO224 := n3_
                          have HO234 := n4_
                          have HO238 := n5_
                          have BK208 := n6_
                          have BK220 := n7_
                          have BK228 := n8_
                          have BK242 := n9_
                          have HB := n10_
                          clear n0_ n1_ n2_ n3_ n4_ n5_ n6_ n7_ n8_ n9_ n10_
                          (try clear hb)
                          (try clear hb2)
                          (try clear hk)
                          (try clear hi)
                          (try clear ho0)
                          refine hK.out _ _ ⟨(blk_cell BK208.out 0).trans rfl, (blk_cell BK208.out 1).trans rfl, (blk_cell BK208.out 2).trans rfl⟩ (fun hHeld => ?_)
                          clear hK K
                          refine norm_ (a' := ?_) ?_ ?_
                          rotate_left
                          · show Act.put _ (some 63) _ = _
                            simp only [Act.put, List.setIfInBounds_toArray, List.set_cons_zero, List.set_cons_succ, i64_w, i32_w]
                            rfl
                          refine pure_ (i := 6) (N := some 57) (v := ?_) (a' := ?_) #[true, true, true, true, true, true, true, false, false, false, true, false, false, false] rfl rfl (any_of HT_.out (by kernel_rfl)) (fun _ _ _ h => h) (Or.inl ⟨by rfl, ?_⟩) ?_ ?_
                          rotate_left
                          · intro w'
                            go_simp
                            with_reducible rfl
                          rotate_left
                          · simp only [Act.put, List.setIfInBounds_toArray, List.set_cons_zero, List.set_cons_succ, i64_w, i32_w]
                            rfl
                          refine pure_ (i := 7) (N := some 64) (v := ?_) (a' := ?_) #[true, true, true, true, true, true, true, true, false, false, true, false, false, false] rfl rfl (any_of HT_.out (by kernel_rfl)) (fun _ _ _ h => h) (Or.inl ⟨by rfl, ?_⟩) ?_ ?_
                          rotate_left
                          · intro w'
                            go_simp
                            with_reducible rfl
                          rotate_left
                          · simp only [Act.put, List.setIfInBounds_toArray, List.set_cons_zero, List.set_cons_succ, i64_w, i32_w]
                            rfl
                          refine pure_ (i := 8) (N := some 65) (v := ?_) (a' := ?_) #[true, true, true, true, true, true, true, true, true, false, true, false, false, false] rfl rfl (any_of HT_.out (by kernel_rfl)) (fun _ _ _ h => h) (Or.inl ⟨by rfl, ?_⟩) ?_ ?_
                          rotate_left
                          · intro w'
                            go_simp
                            with_reducible rfl
                          rotate_left
                          · simp only [Act.put, List.setIfInBounds_toArray, List.set_cons_zero, List.set_cons_succ, i64_w, i32_w]
                            rfl
                          refine pure_ (i := 9) (N := some 66) (v := ?_) (a' := ?_) #[true, true, true, true, true, true, true, true, true, true, true, false, false, false] rfl rfl (any_of HT_.out (by kernel_rfl)) (fun _ _ _ h => h) (Or.inl ⟨by rfl, ?_⟩) ?_ ?_
                          rotate_left
                          · intro w'
                            go_simp
                            with_reducible rfl
                          rotate_left
                          · simp only [Act.put, List.setIfInBounds_toArray, List.set_cons_zero, List.set_cons_succ, i64_w, i32_w]
                            rfl
                          exact norm_ (by simp only [putAll, Act.put, List.setIfInBounds_toArray, List.set_cons_zero, List.set_cons_succ]) (hCont (v230, .slice Ao42 y232.length co42, v237, gb242) _ ⟨hHeld, (by (with_reducible repeat (first | apply Kd.N_alloc | apply Kd.N_drewN | apply Kd.N_drew)); exact Kd.N_mono HO216.out (fun _ hk => ⟨hk.1.1.1.1, ⟨hk.1.1.1.2.1, ⟨hk.1.1.2, ⟨hk.2, ⟨hk.1.1.1.2.2.1, ⟨hk.1.1.1.2.2.2.1, ⟨hk.1.1.1.2.2.2.2, hk.1.2⟩⟩⟩⟩⟩⟩⟩)), (by (with_reducible repeat (first | apply Kd.N_alloc | apply Kd.N_drewN | apply Kd.N_drew)); exact Kd.N_mono HO224.out (fun _ hk => ⟨hk.1.1.1.1, ⟨hk.1.1.1.2.1, ⟨hk.1.1.2, ⟨hk.2, ⟨hk.1.1.1.2.2.1, ⟨hk.1.1.1.2.2.2.1, ⟨hk.1.1.1.2.2.2.2, hk.1.2⟩⟩⟩⟩⟩⟩⟩)), (by (with_reducible repeat (first | apply Kd.N_alloc | apply Kd.N_drewN | apply Kd.N_drew)); exact Kd.N_mono HO234.out (fun _ hk => ⟨hk.1.1.1, ⟨hk.1.1.2.1, ⟨hk.1.1.2.2.1, ⟨hk.2, ⟨hk.1.1.2.2.2.1, ⟨hk.1.1.2.2.2.2.1, ⟨hk.1.1.2.2.2.2.2, hk.1.2⟩⟩⟩⟩⟩⟩⟩)), (by (with_reducible repeat (first | apply Kd.N_alloc | apply Kd.N_drewN | apply Kd.N_drew)); exact HO238.out), (by (with_reducible repeat (first | apply Kd.V_alloc | apply Kd.V_drewN | apply Kd.V_drew)); exact Kd.V_mono HO_1.out (fun _ hk => ⟨hk.1.1.1.1, ⟨hk.1.1.1.2.1, ⟨hk.1.1.1.2.2.1, ⟨hk.1.1.2, ⟨hk.2, ⟨hk.1.1.1.2.2.2.1, ⟨hk.1.1.1.2.2.2.2.1, ⟨hk.1.1.1.2.2.2.2.2, hk.1.2⟩⟩⟩⟩⟩⟩⟩⟩)), (by (with_reducible repeat (first | apply Kd.V_alloc | apply Kd.V_drewN | apply Kd.V_drew)); exact Kd.V_mono HO_2.out (fun _ hk => ⟨hk.1.1.1.1, ⟨hk.1.1.1.2.1, ⟨hk.1.1.1.2.2.1, ⟨hk.1.1.2, ⟨hk.2, ⟨hk.1.1.1.2.2.2.1, ⟨hk.1.1.1.2.2.2.2.1, ⟨hk.1.1.1.2.2.2.2.2, hk.1.2⟩⟩⟩⟩⟩⟩⟩⟩)), (by (with_reducible repeat (first | refine blk_drewN ?_ _ | refine blk_drew ?_ | refine blk_alloc ?_ _)); exact BK208.out), (by (with_reducible repeat (first | refine blk_drewN ?_ _ | refine blk_drew ?_ | refine blk_alloc ?_ _)); exact BK220.out), (by (with_reducible repeat (first | refine blk_drewN ?_ _ | refine blk_drew ?_ | refine blk_alloc ?_ _)); exact BK228.out), (by (with_reducible repeat (first | refine blk_drewN ?_ _ | refine blk_drew ?_ | refine blk_alloc ?_ _)); exact BK242.out), GW242.out, GE242.out, NB208_242.out, NB242_208.out, NB220_242.out, NB242_220.out, NB228_242.out, NB242_228.out, (by repeat (first | (with_reducible first | exact HB.out | apply below_alloc | apply pw_below_drewN | apply below_drew1 | refine below_set ?_ GE208.out | refine below_set ?_ GE220.out | refine below_set ?_ GE228.out | refine below_set ?_ GE242.out) | exact HB.out))⟩)
                      · skip
                        refine box_step ?hg (N := 17) ?hd (cs := #[.int .i64 0, .slice none 0 0, .bool false]) (t := 24) ?hr ?_; (case hd => rfl); (case hg => rfl); (case hr => first | (go_simp; done) | (go_simp; rfl))
                        intro gb242 hg w40 hbox hb
                        have n0_ := Aside0.mk (Kd.V_below (Kd.V_elderB (by (with_reducible repeat (first | apply Kd.V_alloc | apply Kd.V_drewN | apply Kd.V_drew)); exact HO_1.out) gb242 (Nat.le_of_eq hg.symm)) hb)
                        have n1_ := Aside0.mk (Kd.V_below (Kd.V_elderB (by (with_reducible repeat (first | apply Kd.V_alloc | apply Kd.V_drewN | apply Kd.V_drew)); exact HO_2.out) gb242 (Nat.le_of_eq hg.symm)) hb)
                        have n2_ := Aside0.mk (Kd.N_below (Kd.N_elderB (by (with_reducible repeat (first | apply Kd.N_alloc | apply Kd.N_drewN | apply Kd.N_drew)); exact HO216.out) gb242 (Nat.le_of_eq hg.symm)) hb)
                        have n3_ := Aside0.mk (Kd.N_below (Kd.N_elderB (by (with_reducible repeat (first | apply Kd.N_alloc | apply Kd.N_drewN | apply Kd.N_drew)); exact HO224.out) gb242 (Nat.le_of_eq hg.symm)) hb)
                        have n4_ := Aside0.mk (Kd.N_below (Kd.N_elderB (by (with_reducible repeat (first | apply Kd.N_alloc | apply Kd.N_drewN | apply Kd.N_drew)); exact HO231.out) gb242 (Nat.le_of_eq hg.symm)) hb)
                        have n5_ := Aside0.mk (blk_below (g := gb208) (o := .cells #[.int .i64 a0_0, .slice A0_1 l0_1.length c0_1, .bool a0_2] 24 (0, 0)) (by (with_reducible repeat (first | refine blk_drewN ?_ _ | refine blk_drew ?_ | refine blk_alloc ?_ _)); exact BK208.out) hb)
                        have n6_ := Aside0.mk (blk_below (g := gb220) (o := .cells #[.int .i64 t213, .slice Ao30 t214.length co30, .bool t217] 24 (0, 0)) (by (with_reducible repeat (first | refine blk_drewN ?_ _ | refine blk_drew ?_ | refine blk_alloc ?_ _)); exact BK220.out) hb)
                        have n7_ := Aside0.mk (blk_below (g := gb228) (o := .cells #[.int .i64 t221, .slice Ao36 t222.length co36, .bool t225] 24 (0, 0)) (by (with_reducible repeat (first | refine blk_drewN ?_ _ | refine blk_drew ?_ | refine blk_alloc ?_ _)); exact BK228.out) hb)
                        have n8_ := Aside0.mk (below_step (by repeat (first | (with_reducible first | exact HB.out | apply below_alloc | apply pw_below_drewN | apply below_drew1 | refine below_set ?_ GE208.out | refine below_set ?_ GE220.out | refine below_set ?_ GE228.out) | exact HB.out)) hb)
                        have n9_ := Aside0.mk (hbox)
                        have n10_ := Aside0.mk ((by rw [hg]; exact (below_size (by repeat (first | (with_reducible first | exact HB.out | apply below_alloc | apply pw_below_drewN | apply below_drew1 | refine below_set ?_ GE208.out | refine below_set ?_ GE220.out | refine below_set ?_ GE228.out) | exact HB.out))) : w.heap.size ≤ gb242))
                        have n11_ := Aside0.mk ((by rw [hg]; exact (below_size (by repeat (first | (with_reducible first | exact HB.out | apply below_alloc | apply pw_below_drewN | apply below_drew1 | refine below_set ?_ GE208.out | refine below_set ?_ GE220.out | refine below_set ?_ GE228.out) | exact HB.out))) : w.heap.size ≤ gb242))
                        have n12_ := Aside0.mk ((by rw [hg]; exact Nat.ne_of_lt (blk_lt (g := gb208) (o := .cells #[.int .i64 a0_0, .slice A0_1 l0_1.length c0_1, .bool a0_2] 24 (0, 0)) (by (with_reducible repeat (first | refine blk_drewN ?_ _ | refine blk_drew ?_ | refine blk_alloc ?_ _)); exact BK208.out)) : gb208 ≠ gb242))
                        have n13_ := Aside0.mk ((by rw [hg]; exact Nat.ne_of_gt (blk_lt (g := gb208) (o := .cells #[.int .i64 a0_0, .slice A0_1 l0_1.length c0_1, .bool a0_2] 24 (0, 0)) (by (with_reducible repeat (first | refine blk_drewN ?_ _ | refine blk_drew ?_ | refine blk_alloc ?_ _)); exact BK208.out)) : gb242 ≠ gb208))
                        have n14_ := Aside0.mk ((by rw [hg]; exact Nat.ne_of_lt (blk_lt (g := gb220) (o := .cells #[.int .i64 t213, .slice Ao30 t214.length co30, .bool t217] 24 (0, 0)) (by (with_reducible repeat (first | refine blk_drewN ?_ _ | refine blk_drew ?_ | refine blk_alloc ?_ _)); exact BK220.out)) : gb220 ≠ gb242))
                        have n15_ := Aside0.mk ((by rw [hg]; exact Nat.ne_of_gt (blk_lt (g := gb220) (o := .cells #[.int .i64 t213, .slice Ao30 t214.length co30, .bool t217] 24 (0, 0)) (by (with_reducible repeat (first | refine blk_drewN ?_ _ | refine blk_drew ?_ | refine blk_alloc ?_ _)); exact BK220.out)) : gb242 ≠ gb220))
                        have n16_ := Aside0.mk ((by rw [hg]; exact Nat.ne_of_lt (blk_lt (g := gb228) (o := .cells #[.int .i64 t221, .slice Ao36 t222.length co36, .bool t225] 24 (0, 0)) (by (with_reducible repeat (first | refine blk_drewN ?_ _ | refine blk_drew ?_ | refine blk_alloc ?_ _)); exact BK228.out)) : gb228 ≠ gb242))
                        have n17_ := Aside0.mk ((by rw [hg]; exact Nat.ne_of_gt (blk_lt (g := gb228) (o := .cells #[.int .i64 t221, .slice Ao36 t222.length co36, .bool t225] 24 (0, 0)) (by (with_reducible repeat (first | refine blk_drewN ?_ _ | refine blk_drew ?_ | refine blk_alloc ?_ _)); exact BK228.out)) : gb242 ≠ gb228))
                        clear HO_1
                        clear HO_2
                        clear HO216
                        clear HO224
                        clear HO231
                        clear BK208
                        clear BK220
                        clear BK228
                        clear HB
                        have HO_1 := n0_
                        have HO_2 := n1_
                        have HO216 := n2_
                        have HO224 := n3_
                        have HO231 := n4_
                        have BK208 := n5_
                        have BK220 := n6_
                        have BK228 := n7_
                        have HB := n8_
                        have BK242 := n9_
                        have GW242 := n10_
                        have GE242 := n11_
                        have NB208_242 := n12_
                        have NB242_208 := n13_
                        have NB220_242 := n14_
                        have NB242_220 := n15_
                        have NB228_242 := n16_
                        have NB242_228 := n17_
                        clear n0_ n1_ n2_ n3_ n4_ n5_ n6_ n7_ n8_ n9_ n10_ n11_ n12_ n13_ n14_ n15_ n16_ n17_
                        clear hb hbox hg
                        refine hK.out _ _ ⟨(blk_cell BK208.out 0).trans rfl, (blk_cell BK208.out 1).trans rfl, (blk_cell BK208.out 2).trans rfl⟩ (fun hHeld => ?_)
                        clear hK K
                        refine norm_ (a' := ?_) ?_ ?_
                        rotate_left
                        · show Act.put _ (some 17) _ = _
                          simp only [Act.put, List.setIfInBounds_toArray, List.set_cons_zero, List.set_cons_succ, i64_w, i32_w]
                          rfl
                        refine one_ (i := 4) (N := some 62) #[true, true, true, true, true, false, false, false, false, false, true, false, false, false] rfl rfl (one_of HT_.out (by kernel_rfl)) (by decide) (fun K hK => ?_)
                        refine Kd.N_append_rows_step (Kd.slice 5 (Kd.int .u8)) (w0 := w) w.heap.size (by rfl) (.tmp 60) (.tmp 61) 22 25 (.slice none 0 0) 24 rfl Try.underlying22 info25 rfl (by decide) (by omega) v230 y229 l2 _ _ _ (fun k_ => ((P1_ k_ ∨ P2_ k_) ∨ w.heap.size ≤ k_) ∧ some k_ ≠ (.slice Ao30 t214.length co30 : Value).ownBlock ∧ some k_ ≠ (.slice Ao36 t222.length co36 : Value).ownBlock ∧ k_ ≠ gb208 ∧ k_ ≠ gb220 ∧ k_ ≠ gb228 ∧ k_ ≠ gb242) (fun k_ => ((fun k_ => ((P1_ k_ ∨ P2_ k_) ∨ w.heap.size ≤ k_) ∧ some k_ ≠ (.slice Ao30 t214.length co30 : Value).ownBlock ∧ some k_ ≠ (.slice Ao36 t222.length co36 : Value).ownBlock ∧ k_ ≠ gb208 ∧ k_ ≠ gb220 ∧ k_ ≠ gb228 ∧ k_ ≠ gb242)) k_ ∧ some k_ ≠ (v230 : Value).ownBlock) rfl rfl ?aO ?aR (fun _ hk => hk) ?aF ?aB ?aS ?aL ?_
                        (case aR => exact (by skip; exact Kd.V_F (Kd.V_mono (ok' := (fun k_ => ((fun k_ => ((P1_ k_ ∨ P2_ k_) ∨ w.heap.size ≤ k_) ∧ some k_ ≠ (.slice Ao30 t214.length co30 : Value).ownBlock ∧ some k_ ≠ (.slice Ao36 t222.length co36 : Value).ownBlock ∧ k_ ≠ gb208 ∧ k_ ≠ gb220 ∧ k_ ≠ gb228 ∧ k_ ≠ gb242)) k_ ∧ some k_ ≠ (v230 : Value).ownBlock)) (HO_2.out) (fun k_ hk => ⟨⟨hk.1.1.1, ⟨hk.1.1.2.1, ⟨hk.1.1.2.2.1, ⟨hk.1.1.2.2.2.1, ⟨hk.1.1.2.2.2.2.1, ⟨hk.1.1.2.2.2.2.2, hk.2⟩⟩⟩⟩⟩⟩, hk.1.2⟩))))
                        (case aB => exact (by repeat (first | (with_reducible first | exact HB.out | apply below_alloc | apply pw_below_drewN | apply below_drew1 | refine below_set ?_ GE208.out | refine below_set ?_ GE220.out | refine below_set ?_ GE228.out | refine below_set ?_ GE242.out) | exact HB.out)))
                        (case aF => exact (fun k_ hk => ⟨(.inr (Nat.le_trans (below_size (by repeat (first | (with_reducible first | exact HB.out | apply below_alloc | apply pw_below_drewN | apply below_drew1 | refine below_set ?_ GE208.out | refine below_set ?_ GE220.out | refine below_set ?_ GE228.out | refine below_set ?_ GE242.out) | exact HB.out))) hk)), Kd.fresh' (Kd.N_lt (by (with_reducible repeat (first | apply Kd.N_alloc | apply Kd.N_drewN | apply Kd.N_drew)); exact HO216.out)) k_ hk, Kd.fresh' (Kd.N_lt (by (with_reducible repeat (first | apply Kd.N_alloc | apply Kd.N_drewN | apply Kd.N_drew)); exact HO224.out)) k_ hk, Kd.freshB (g := gb208) (o := .cells #[.int .i64 a0_0, .slice A0_1 l0_1.length c0_1, .bool a0_2] 24 (0, 0)) (by (with_reducible repeat (first | refine blk_drewN ?_ _ | refine blk_drew ?_ | refine blk_alloc ?_ _)); exact BK208.out) k_ hk, Kd.freshB (g := gb220) (o := .cells #[.int .i64 t213, .slice Ao30 t214.length co30, .bool t217] 24 (0, 0)) (by (with_reducible repeat (first | refine blk_drewN ?_ _ | refine blk_drew ?_ | refine blk_alloc ?_ _)); exact BK220.out) k_ hk, Kd.freshB (g := gb228) (o := .cells #[.int .i64 t221, .slice Ao36 t222.length co36, .bool t225] 24 (0, 0)) (by (with_reducible repeat (first | refine blk_drewN ?_ _ | refine blk_drew ?_ | refine blk_alloc ?_ _)); exact BK228.out) k_ hk, Kd.freshB (g := gb242) (o := .cells #[.int .i64 0, .slice none 0 0, .bool false] 24 (0, 0)) (by (with_reducible repeat (first | refine blk_drewN ?_ _ | refine blk_drew ?_ | refine blk_alloc ?_ _)); exact BK242.out) k_ hk⟩))
                        (case aO => exact (by (with_reducible repeat (first | apply Kd.N_alloc | apply Kd.N_drewN | apply Kd.N_drew)); exact Kd.N_mono HO231.out (fun _ hk => ⟨hk.1.1, ⟨hk.1.2.1, ⟨hk.1.2.2.1, ⟨hk.1.2.2.2.1, ⟨hk.1.2.2.2.2.1, ⟨hk.1.2.2.2.2.2, hk.2⟩⟩⟩⟩⟩⟩)))
                        (case aS => exact (below_size (by repeat (first | (with_reducible first | exact HB.out | apply below_alloc | apply pw_below_drewN | apply below_drew1 | refine below_set ?_ GE208.out | refine below_set ?_ GE220.out | refine below_set ?_ GE228.out | refine below_set ?_ GE242.out) | exact HB.out))))
                        (case aL => have := LMc19.out; omega)
                        intro v233 w41 ho hb hg hat
                        rw [← Ny232.out] at ho
                        have n0_ := Aside0.mk (Kd.V_afterv (ok := (fun k_ => ((P1_ k_ ∨ P2_ k_) ∨ w.heap.size ≤ k_) ∧ some k_ ≠ (.slice Ao30 t214.length co30 : Value).ownBlock ∧ some k_ ≠ (.slice Ao36 t222.length co36 : Value).ownBlock ∧ k_ ≠ gb208 ∧ k_ ≠ gb220 ∧ k_ ≠ gb228 ∧ k_ ≠ gb242)) (by (with_reducible repeat (first | apply Kd.V_alloc | apply Kd.V_drewN | apply Kd.V_drew)); exact Kd.V_mono HO_1.out (fun _ hk => ⟨⟨hk.1.1.1, ⟨hk.1.1.2.1, ⟨hk.1.1.2.2.1, ⟨hk.1.1.2.2.2.1, ⟨hk.1.1.2.2.2.2.1, ⟨hk.1.1.2.2.2.2.2, hk.2⟩⟩⟩⟩⟩⟩, hk.1.2⟩)) hg hat)
                        have n1_ := Aside0.mk (Kd.V_afterv (ok := (fun k_ => ((P1_ k_ ∨ P2_ k_) ∨ w.heap.size ≤ k_) ∧ some k_ ≠ (.slice Ao30 t214.length co30 : Value).ownBlock ∧ some k_ ≠ (.slice Ao36 t222.length co36 : Value).ownBlock ∧ k_ ≠ gb208 ∧ k_ ≠ gb220 ∧ k_ ≠ gb228 ∧ k_ ≠ gb242)) (by (with_reducible repeat (first | apply Kd.V_alloc | apply Kd.V_drewN | apply Kd.V_drew)); exact Kd.V_mono HO_2.out (fun _ hk => ⟨⟨hk.1.1.1, ⟨hk.1.1.2.1, ⟨hk.1.1.2.2.1, ⟨hk.1.1.2.2.2.1, ⟨hk.1.1.2.2.2.2.1, ⟨hk.1.1.2.2.2.2.2, hk.2⟩⟩⟩⟩⟩⟩, hk.1.2⟩)) hg hat)
                        have n2_ := Aside0.mk (blk_grown (g := gb208) (o := .cells #[.int .i64 a0_0, .slice A0_1 l0_1.length c0_1, .bool a0_2] 24 (0, 0)) (by (with_reducible repeat (first | refine blk_drewN ?_ _ | refine blk_drew ?_ | refine blk_alloc ?_ _)); exact BK208.out) hg (Kd.N_ne HO231.out BK208.out (by decide)))
                        have n3_ := Aside0.mk (Kd.N_afterv (ok := (fun k_ => ((P1_ k_ ∨ P2_ k_) ∨ w.heap.size ≤ k_) ∧ some k_ ≠ (.slice Ao36 t222.length co36 : Value).ownBlock ∧ k_ ≠ gb208 ∧ k_ ≠ gb220 ∧ k_ ≠ gb228 ∧ k_ ≠ gb242)) (by (with_reducible repeat (first | apply Kd.N_alloc | apply Kd.N_drewN | apply Kd.N_drew)); exact Kd.N_mono HO216.out (fun _ hk => ⟨⟨hk.1.1.1, ⟨hk.1.1.2.1, ⟨hk.1.1.2.2.1, ⟨hk.1.1.2.2.2.1, ⟨hk.1.1.2.2.2.2, hk.2⟩⟩⟩⟩⟩, hk.1.2⟩)) hg hat)
                        have n4_ := Aside0.mk (blk_grown (g := gb220) (o := .cells #[.int .i64 t213, .slice Ao30 t214.length co30, .bool t217] 24 (0, 0)) (by (with_reducible repeat (first | refine blk_drewN ?_ _ | refine blk_drew ?_ | refine blk_alloc ?_ _)); exact BK220.out) hg (Kd.N_ne HO231.out BK220.out (by decide)))
                        have n5_ := Aside0.mk (Kd.N_afterv (ok := (fun k_ => ((P1_ k_ ∨ P2_ k_) ∨ w.heap.size ≤ k_) ∧ some k_ ≠ (.slice Ao30 t214.length co30 : Value).ownBlock ∧ k_ ≠ gb208 ∧ k_ ≠ gb220 ∧ k_ ≠ gb228 ∧ k_ ≠ gb242)) (by (with_reducible repeat (first | apply Kd.N_alloc | apply Kd.N_drewN | apply Kd.N_drew)); exact Kd.N_mono HO224.out (fun _ hk => ⟨⟨hk.1.1.1, ⟨hk.1.1.2.1, ⟨hk.1.1.2.2.1, ⟨hk.1.1.2.2.2.1, ⟨hk.1.1.2.2.2.2, hk.2⟩⟩⟩⟩⟩, hk.1.2⟩)) hg hat)
                        have n6_ := Aside0.mk (blk_grown (g := gb228) (o := .cells #[.int .i64 t221, .slice Ao36 t222.length co36, .bool t225] 24 (0, 0)) (by (with_reducible repeat (first | refine blk_drewN ?_ _ | refine blk_drew ?_ | refine blk_alloc ?_ _)); exact BK228.out) hg (Kd.N_ne HO231.out BK228.out (by decide)))
                        have n7_ := Aside0.mk (blk_grown (g := gb242) (o := .cells #[.int .i64 0, .slice none 0 0, .bool false] 24 (0, 0)) (by (with_reducible repeat (first | refine blk_drewN ?_ _ | refine blk_drew ?_ | refine blk_alloc ?_ _)); exact BK242.out) hg (Kd.N_ne HO231.out BK242.out (by decide)))
                        have n8_ := Aside0.mk (hb)
                        have n9_ := Aside0.mk (ho)
                        clear HO_1
                        clear HO_2
                        clear BK208
                        clear HO216
                        clear BK220
                        clear HO224
                        clear BK228
                        clear BK242
                        clear HB
                        clear HO231
                        have HO_1 := n0_
                        have HO_2 := n1_
                        have BK208 := n2_
                        have HO216 := n3_
                        have BK220 := n4_
                        have HO224 := n5_
                        have BK228 := n6_
                        have BK242 := n7_
                        have HB := n8_
                        have HO234 := n9_
                        clear n0_ n1_ n2_ n3_ n4_ n5_ n6_ n7_ n8_ n9_
                        clear ho hb hg hat
                        obtain ⟨Ao42, co42, eo42⟩ := Kd.N_slice HO234.out
                        (first | subst eo42 | (injection eo42 with f1_ f2_ f3_; have f4_ := f1_.symm; have f5_ := f3_.symm; clear f1_ f2_ f3_; subst f4_; subst f5_))
                        refine hK.out _ _ ⟨(blk_cell BK208.out 0).trans rfl, (blk_cell BK208.out 1).trans rfl, (blk_cell BK208.out 2).trans rfl⟩ (fun hHeld => ?_)
                        clear hK K
                        refine norm_ (a' := ?_) ?_ ?_
                        rotate_left
                        · show Act.put _ (some 62) _ = _
                          simp only [Act.put, List.setIfInBounds_toArray, List.set_cons_zero, List.set_cons_succ, i64_w, i32_w]
                          rfl
                        refine one_ (i := 5) (N := some 63) #[true, true, true, true, true, true, false, false, false, false, true, false, false, false] rfl rfl (one_of HT_.out (by kernel_rfl)) (by decide) (fun K hK => ?_)
                        refine goes_ Try.func15 (by kernel_rfl) rfl #[.agg #[.int .i64 a0_0, .slice A0_1 l0_1.length c0_1, .bool a0_2], .slice Ao42 y232.length co42] (by rfl) rfl rfl (by (try simp only [List.map_toArray, List.map_cons, List.map_nil]); first | done | rfl | (simp only [List.length_drop, List.length_take]; rfl)) ?_
                        with_reducible refine (tape_Fill.calls a0_0 _ _ l0_1 a0_2 _ _ y232 t235 t236 t239 t240 t241 _ ?side1 ?side2 ?side3 ?side4 A20.out).mono ?_
                        (case side1 => repeat (first | exact (Kd.C_below HR0_1.out HB.out) | (with_reducible refine Kd.C_alloc ?_ _) | (with_reducible refine Kd.C_drewN ?_ _) | (with_reducible refine Kd.C_drew ?_)))
                        (case side2 => exact HC0_1.out)
                        (case side3 => repeat (first | exact (Kd.N_reads' HO234.out).2.2 | (with_reducible refine Kd.C_alloc ?_ _) | (with_reducible refine Kd.C_drewN ?_ _) | (with_reducible refine Kd.C_drew ?_)))
                        (case side4 => exact (Kd.N_reads' HO234.out).2.1)
                        rintro e w43 ⟨v237, rfl, ho0, hb⟩
                        refine ⟨_, rfl, ?_⟩
                        have n0_ := Aside0.mk (Kd.V_elder' (by (with_reducible repeat (first | apply Kd.V_alloc | apply Kd.V_drewN | apply Kd.V_drew)); exact HO_1.out) (by first | exact Kd.N_base ho0 | exact Kd.S_base ho0 | exact Kd.R_base ho0) hb)
                        have n1_ := Aside0.mk (Kd.V_elder' (by (with_reducible repeat (first | apply Kd.V_alloc | apply Kd.V_drewN | apply Kd.V_drew)); exact HO_2.out) (by first | exact Kd.N_base ho0 | exact Kd.S_base ho0 | exact Kd.R_base ho0) hb)
                        have n2_ := Aside0.mk (Kd.N_elder' (by (with_reducible repeat (first | apply Kd.N_alloc | apply Kd.N_drewN | apply Kd.N_drew)); exact HO216.out) (by first | exact Kd.N_base ho0 | exact Kd.S_base ho0 | exact Kd.R_base ho0) hb)
                        have n3_ := Aside0.mk (Kd.N_elder' (by (with_reducible repeat (first | apply Kd.N_alloc | apply Kd.N_drewN | apply Kd.N_drew)); exact HO224.out) (by first | exact Kd.N_base ho0 | exact Kd.S_base ho0 | exact Kd.R_base ho0) hb)
                        have n4_ := Aside0.mk (Kd.N_elder' (by (with_reducible repeat (first | apply Kd.N_alloc | apply Kd.N_drewN | apply Kd.N_drew)); exact HO234.out) (by first | exact Kd.N_base ho0 | exact Kd.S_base ho0 | exact Kd.R_base ho0) hb)
                        have n5_ := Aside0.mk (Kd.N_lower (Kd.N_mono (ok' := fun k_ => ((P1_ k_ ∨ P2_ k_) ∨ w.heap.size ≤ k_) ∧ some k_ ≠ (.slice Ao30 t214.length co30 : Value).ownBlock ∧ some k_ ≠ (.slice Ao36 t222.length co36 : Value).ownBlock ∧ some k_ ≠ (.slice Ao42 y232.length co42 : Value).ownBlock ∧ k_ ≠ gb208 ∧ k_ ≠ gb220 ∧ k_ ≠ gb228 ∧ k_ ≠ gb242) (Kd.S_N (Kd.S_bound ho0)) (fun k_ hk_ => ⟨(.inr (Nat.le_trans (below_size (by repeat (first | (with_reducible first | exact HB.out | apply below_alloc | apply pw_below_drewN | apply below_drew1 | refine below_set ?_ GE208.out | refine below_set ?_ GE220.out | refine below_set ?_ GE228.out | refine below_set ?_ GE242.out) | exact HB.out))) hk_.2.1)), (Kd.fresh' (Kd.N_lt (by (with_reducible repeat (first | apply Kd.N_alloc | apply Kd.N_drewN | apply Kd.N_drew)); exact HO216.out)) k_ hk_.2.1), (Kd.fresh' (Kd.N_lt (by (with_reducible repeat (first | apply Kd.N_alloc | apply Kd.N_drewN | apply Kd.N_drew)); exact HO224.out)) k_ hk_.2.1), (Kd.fresh' (Kd.N_lt (by (with_reducible repeat (first | apply Kd.N_alloc | apply Kd.N_drewN | apply Kd.N_drew)); exact HO234.out)) k_ hk_.2.1), (Kd.freshB (g := gb208) (o := .cells #[.int .i64 a0_0, .slice A0_1 l0_1.length c0_1, .bool a0_2] 24 (0, 0)) (by (with_reducible repeat (first | refine blk_drewN ?_ _ | refine blk_drew ?_ | refine blk_alloc ?_ _)); exact BK208.out) k_ hk_.2.1), (Kd.freshB (g := gb220) (o := .cells #[.int .i64 t213, .slice Ao30 t214.length co30, .bool t217] 24 (0, 0)) (by (with_reducible repeat (first | refine blk_drewN ?_ _ | refine blk_drew ?_ | refine blk_alloc ?_ _)); exact BK220.out) k_ hk_.2.1), (Kd.freshB (g := gb228) (o := .cells #[.int .i64 t221, .slice Ao36 t222.length co36, .bool t225] 24 (0, 0)) (by (with_reducible repeat (first | refine blk_drewN ?_ _ | refine blk_drew ?_ | refine blk_alloc ?_ _)); exact BK228.out) k_ hk_.2.1), (Kd.freshB (g := gb242) (o := .cells #[.int .i64 0, .slice none 0 0, .bool false] 24 (0, 0)) (by (with_reducible repeat (first | refine blk_drewN ?_ _ | refine blk_drew ?_ | refine blk_alloc ?_ _)); exact BK242.out) k_ hk_.2.1)⟩)) (below_size (by repeat (first | (with_reducible first | exact HB.out | apply below_alloc | apply pw_below_drewN | apply below_drew1 | refine below_set ?_ GE208.out | refine below_set ?_ GE220.out | refine below_set ?_ GE228.out | refine below_set ?_ GE242.out) | exact HB.out))))
                        have n6_ := Aside0.mk (blk_below (g := gb208) (o := .cells #[.int .i64 a0_0, .slice A0_1 l0_1.length c0_1, .bool a0_2] 24 (0, 0)) (by (with_reducible repeat (first | refine blk_drewN ?_ _ | refine blk_drew ?_ | refine blk_alloc ?_ _)); exact BK208.out) hb)
                        have n7_ := Aside0.mk (blk_below (g := gb220) (o := .cells #[.int .i64 t213, .slice Ao30 t214.length co30, .bool t217] 24 (0, 0)) (by (with_reducible repeat (first | refine blk_drewN ?_ _ | refine blk_drew ?_ | refine blk_alloc ?_ _)); exact BK220.out) hb)
                        have n8_ := Aside0.mk (blk_below (g := gb228) (o := .cells #[.int .i64 t221, .slice Ao36 t222.length co36, .bool t225] 24 (0, 0)) (by (with_reducible repeat (first | refine blk_drewN ?_ _ | refine blk_drew ?_ | refine blk_alloc ?_ _)); exact BK228.out) hb)
                        have n9_ := Aside0.mk (blk_below (g := gb242) (o := .cells #[.int .i64 0, .slice none 0 0, .bool false] 24 (0, 0)) (by (with_reducible repeat (first | refine blk_drewN ?_ _ | refine blk_drew ?_ | refine blk_alloc ?_ _)); exact BK242.out) hb)
                        have n10_ := Aside0.mk (below_step (by repeat (first | (with_reducible first | exact HB.out | apply below_alloc | apply pw_below_drewN | apply below_drew1 | refine below_set ?_ GE208.out | refine below_set ?_ GE220.out | refine below_set ?_ GE228.out | refine below_set ?_ GE242.out) | exact HB.out)) hb)
                        clear HO_1
                        clear HO_2
                        clear HO216
                        clear HO224
                        clear HO234
                        clear BK208
                        clear BK220
                        clear BK228
                        clear BK242
                        clear HB
                        have HO_1 := n0_
                        have HO_2 := n1_
                        have HO216 := n2_
                        have HO224 := n3_
                        have HO234 := n4_
                        have HO238 := n5_
                        have BK208 := n6_
                        have BK220 := n7_
                        have BK228 := n8_
                        have BK242 := n9_
                        have HB := n10_
                        clear n0_ n1_ n2_ n3_ n4_ n5_ n6_ n7_ n8_ n9_ n10_
                        (try clear hb)
                        (try clear hb2)
                        (try clear hk)
                        (try clear hi)
                        (try clear ho0)
                        refine hK.out _ _ ⟨(blk_cell BK208.out 0).trans rfl, (blk_cell BK208.out 1).trans rfl, (blk_cell BK208.out 2).trans rfl⟩ (fun hHeld => ?_)
                        clear hK K
                        refine norm_ (a' := ?_) ?_ ?_
                        rotate_left
                        · show Act.put _ (some 63) _ = _
                          simp only [Act.put, List.setIfInBounds_toArray, List.set_cons_zero, List.set_cons_succ, i64_w, i32_w]
                          rfl
                        refine pure_ (i := 6) (N := some 57) (v := ?_) (a' := ?_) #[true, true, true, true, true, true, true, false, false, false, true, false, false, false] rfl rfl (any_of HT_.out (by kernel_rfl)) (fun _ _ _ h => h) (Or.inl ⟨by rfl, ?_⟩) ?_ ?_
                        rotate_left
                        · intro w'
                          go_simp
                          with_reducible rfl
                        rotate_left
                        · simp only [Act.put, List.setIfInBounds_toArray, List.set_cons_zero, List.set_cons_succ, i64_w, i32_w]
                          rfl
                        refine pure_ (i := 7) (N := some 64) (v := ?_) (a' := ?_) #[true, true, true, true, true, true, true, true, false, false, true, false, false, false] rfl rfl (any_of HT_.out (by kernel_rfl)) (fun _ _ _ h => h) (Or.inl ⟨by rfl, ?_⟩) ?_ ?_
                        rotate_left
                        · intro w'
                          go_simp
                          with_reducible rfl
                        rotate_left
                        · simp only [Act.put, List.setIfInBounds_toArray, List.set_cons_zero, List.set_cons_succ, i64_w, i32_w]
                          rfl
                        refine pure_ (i := 8) (N := some 65) (v := ?_) (a' := ?_) #[true, true, true, true, true, true, true, true, true, false, true, false, false, false] rfl rfl (any_of HT_.out (by kernel_rfl)) (fun _ _ _ h => h) (Or.inl ⟨by rfl, ?_⟩) ?_ ?_
                        rotate_left
                        · intro w'
                          go_simp
                          with_reducible rfl
                        rotate_left
                        · simp only [Act.put, List.setIfInBounds_toArray, List.set_cons_zero, List.set_cons_succ, i64_w, i32_w]
                          rfl
                        refine pure_ (i := 9) (N := some 66) (v := ?_) (a' := ?_) #[true, true, true, true, true, true, true, true, true, true, true, false, false, false] rfl rfl (any_of HT_.out (by kernel_rfl)) (fun _ _ _ h => h) (Or.inl ⟨by rfl, ?_⟩) ?_ ?_
                        rotate_left
                        · intro w'
                          go_simp
                          with_reducible rfl
                        rotate_left
                        · simp only [Act.put, List.setIfInBounds_toArray, List.set_cons_zero, List.set_cons_succ, i64_w, i32_w]
                          rfl
                        exact norm_ (by simp only [putAll, Act.put, List.setIfInBounds_toArray, List.set_cons_zero, List.set_cons_succ]) (hCont (v230, .slice Ao42 y232.length co42, v237, gb242) _ ⟨hHeld, (by (with_reducible repeat (first | apply Kd.N_alloc | apply Kd.N_drewN | apply Kd.N_drew)); exact Kd.N_mono HO216.out (fun _ hk => ⟨hk.1.1.1, ⟨hk.1.1.2.1, ⟨hk.1.2, ⟨hk.2, ⟨hk.1.1.2.2.1, ⟨hk.1.1.2.2.2.1, ⟨hk.1.1.2.2.2.2.1, hk.1.1.2.2.2.2.2⟩⟩⟩⟩⟩⟩⟩)), (by (with_reducible repeat (first | apply Kd.N_alloc | apply Kd.N_drewN | apply Kd.N_drew)); exact Kd.N_mono HO224.out (fun _ hk => ⟨hk.1.1.1, ⟨hk.1.1.2.1, ⟨hk.1.2, ⟨hk.2, ⟨hk.1.1.2.2.1, ⟨hk.1.1.2.2.2.1, ⟨hk.1.1.2.2.2.2.1, hk.1.1.2.2.2.2.2⟩⟩⟩⟩⟩⟩⟩)), (by (with_reducible repeat (first | apply Kd.N_alloc | apply Kd.N_drewN | apply Kd.N_drew)); exact Kd.N_mono HO234.out (fun _ hk => ⟨hk.1.1, ⟨hk.1.2.1, ⟨hk.1.2.2.1, ⟨hk.2, ⟨hk.1.2.2.2.1, ⟨hk.1.2.2.2.2.1, ⟨hk.1.2.2.2.2.2.1, hk.1.2.2.2.2.2.2⟩⟩⟩⟩⟩⟩⟩)), (by (with_reducible repeat (first | apply Kd.N_alloc | apply Kd.N_drewN | apply Kd.N_drew)); exact HO238.out), (by (with_reducible repeat (first | apply Kd.V_alloc | apply Kd.V_drewN | apply Kd.V_drew)); exact Kd.V_mono HO_1.out (fun _ hk => ⟨hk.1.1.1, ⟨hk.1.1.2.1, ⟨hk.1.1.2.2.1, ⟨hk.1.2, ⟨hk.2, ⟨hk.1.1.2.2.2.1, ⟨hk.1.1.2.2.2.2.1, ⟨hk.1.1.2.2.2.2.2.1, hk.1.1.2.2.2.2.2.2⟩⟩⟩⟩⟩⟩⟩⟩)), (by (with_reducible repeat (first | apply Kd.V_alloc | apply Kd.V_drewN | apply Kd.V_drew)); exact Kd.V_mono HO_2.out (fun _ hk => ⟨hk.1.1.1, ⟨hk.1.1.2.1, ⟨hk.1.1.2.2.1, ⟨hk.1.2, ⟨hk.2, ⟨hk.1.1.2.2.2.1, ⟨hk.1.1.2.2.2.2.1, ⟨hk.1.1.2.2.2.2.2.1, hk.1.1.2.2.2.2.2.2⟩⟩⟩⟩⟩⟩⟩⟩)), (by (with_reducible repeat (first | refine blk_drewN ?_ _ | refine blk_drew ?_ | refine blk_alloc ?_ _)); exact BK208.out), (by (with_reducible repeat (first | refine blk_drewN ?_ _ | refine blk_drew ?_ | refine blk_alloc ?_ _)); exact BK220.out), (by (with_reducible repeat (first | refine blk_drewN ?_ _ | refine blk_drew ?_ | refine blk_alloc ?_ _)); exact BK228.out), (by (with_reducible repeat (first | refine blk_drewN ?_ _ | refine blk_drew ?_ | refine blk_alloc ?_ _)); exact BK242.out), GW242.out, GE242.out, NB208_242.out, NB242_208.out, NB220_242.out, NB242_220.out, NB228_242.out, NB242_228.out, (by repeat (first | (with_reducible first | exact HB.out | apply below_alloc | apply pw_below_drewN | apply below_drew1 | refine below_set ?_ GE208.out | refine below_set ?_ GE220.out | refine below_set ?_ GE228.out | refine below_set ?_ GE242.out) | exact HB.out))⟩)
                    · skip
                      refine box_step ?hg (N := 17) ?hd (cs := #[.int .i64 0, .slice none 0 0, .bool false]) (t := 24) ?hr ?_; (case hd => rfl); (case hg => rfl); (case hr => first | (go_simp; done) | (go_simp; rfl))
                      intro gb242 hg w39 hbox hb
                      have n0_ := Aside0.mk (Kd.V_below (Kd.V_elderB (by (with_reducible repeat (first | apply Kd.V_alloc | apply Kd.V_drewN | apply Kd.V_drew)); exact HO_1.out) gb242 (Nat.le_of_eq hg.symm)) hb)
                      have n1_ := Aside0.mk (Kd.V_below (Kd.V_elderB (by (with_reducible repeat (first | apply Kd.V_alloc | apply Kd.V_drewN | apply Kd.V_drew)); exact HO_2.out) gb242 (Nat.le_of_eq hg.symm)) hb)
                      have n2_ := Aside0.mk (Kd.N_below (Kd.N_elderB (by (with_reducible repeat (first | apply Kd.N_alloc | apply Kd.N_drewN | apply Kd.N_drew)); exact HO216.out) gb242 (Nat.le_of_eq hg.symm)) hb)
                      have n3_ := Aside0.mk (Kd.N_below (Kd.N_elderB (by (with_reducible repeat (first | apply Kd.N_alloc | apply Kd.N_drewN | apply Kd.N_drew)); exact HO224.out) gb242 (Nat.le_of_eq hg.symm)) hb)
                      have n4_ := Aside0.mk (blk_below (g := gb208) (o := .cells #[.int .i64 a0_0, .slice A0_1 l0_1.length c0_1, .bool a0_2] 24 (0, 0)) (by (with_reducible repeat (first | refine blk_drewN ?_ _ | refine blk_drew ?_ | refine blk_alloc ?_ _)); exact BK208.out) hb)
                      have n5_ := Aside0.mk (blk_below (g := gb220) (o := .cells #[.int .i64 t213, .slice Ao30 t214.length co30, .bool t217] 24 (0, 0)) (by (with_reducible repeat (first | refine blk_drewN ?_ _ | refine blk_drew ?_ | refine blk_alloc ?_ _)); exact BK220.out) hb)
                      have n6_ := Aside0.mk (blk_below (g := gb228) (o := .cells #[.int .i64 t221, .slice Ao36 t222.length co36, .bool t225] 24 (0, 0)) (by (with_reducible repeat (first | refine blk_drewN ?_ _ | refine blk_drew ?_ | refine blk_alloc ?_ _)); exact BK228.out) hb)
                      have n7_ := Aside0.mk (below_step (by repeat (first | (with_reducible first | exact HB.out | apply below_alloc | apply pw_below_drewN | apply below_drew1 | refine below_set ?_ GE208.out | refine below_set ?_ GE220.out | refine below_set ?_ GE228.out) | exact HB.out)) hb)
                      have n8_ := Aside0.mk (hbox)
                      have n9_ := Aside0.mk ((by rw [hg]; exact (below_size (by repeat (first | (with_reducible first | exact HB.out | apply below_alloc | apply pw_below_drewN | apply below_drew1 | refine below_set ?_ GE208.out | refine below_set ?_ GE220.out | refine below_set ?_ GE228.out) | exact HB.out))) : w.heap.size ≤ gb242))
                      have n10_ := Aside0.mk ((by rw [hg]; exact (below_size (by repeat (first | (with_reducible first | exact HB.out | apply below_alloc | apply pw_below_drewN | apply below_drew1 | refine below_set ?_ GE208.out | refine below_set ?_ GE220.out | refine below_set ?_ GE228.out) | exact HB.out))) : w.heap.size ≤ gb242))
                      have n11_ := Aside0.mk ((by rw [hg]; exact Nat.ne_of_lt (blk_lt (g := gb208) (o := .cells #[.int .i64 a0_0, .slice A0_1 l0_1.length c0_1, .bool a0_2] 24 (0, 0)) (by (with_reducible repeat (first | refine blk_drewN ?_ _ | refine blk_drew ?_ | refine blk_alloc ?_ _)); exact BK208.out)) : gb208 ≠ gb242))
                      have n12_ := Aside0.mk ((by rw [hg]; exact Nat.ne_of_gt (blk_lt (g := gb208) (o := .cells #[.int .i64 a0_0, .slice A0_1 l0_1.length c0_1, .bool a0_2] 24 (0, 0)) (by (with_reducible repeat (first | refine blk_drewN ?_ _ | refine blk_drew ?_ | refine blk_alloc ?_ _)); exact BK208.out)) : gb242 ≠ gb208))
                      have n13_ := Aside0.mk ((by rw [hg]; exact Nat.ne_of_lt (blk_lt (g := gb220) (o := .cells #[.int .i64 t213, .slice Ao30 t214.length co30, .bool t217] 24 (0, 0)) (by (with_reducible repeat (first | refine blk_drewN ?_ _ | refine blk_drew ?_ | refine blk_alloc ?_ _)); exact BK220.out)) : gb220 ≠ gb242))
                      have n14_ := Aside0.mk ((by rw [hg]; exact Nat.ne_of_gt (blk_lt (g := gb220) (o := .cells #[.int .i64 t213, .slice Ao30 t214.length co30, .bool t217] 24 (0, 0)) (by (with_reducible repeat (first | refine blk_drewN ?_ _ | refine blk_drew ?_ | refine blk_alloc ?_ _)); exact BK220.out)) : gb242 ≠ gb220))
                      have n15_ := Aside0.mk ((by rw [hg]; exact Nat.ne_of_lt (blk_lt (g := gb228) (o := .cells #[.int .i64 t221, .slice Ao36 t222.length co36, .bool t225] 24 (0, 0)) (by (with_reducible repeat (first | refine blk_drewN ?_ _ | refine blk_drew ?_ | refine blk_alloc ?_ _)); exact BK228.out)) : gb228 ≠ gb242))
                      have n16_ := Aside0.mk ((by rw [hg]; exact Nat.ne_of_gt (blk_lt (g := gb228) (o := .cells #[.int .i64 t221, .slice Ao36 t222.length co36, .bool t225] 24 (0, 0)) (by (with_reducible repeat (first | refine blk_drewN ?_ _ | refine blk_drew ?_ | refine blk_alloc ?_ _)); exact BK228.out)) : gb242 ≠ gb228))
                      clear HO_1
                      clear HO_2
                      clear HO216
                      clear HO224
                      clear BK208
                      clear BK220
                      clear BK228
                      clear HB
                      have HO_1 := n0_
                      have HO_2 := n1_
                      have HO216 := n2_
                      have HO224 := n3_
                      have BK208 := n4_
                      have BK220 := n5_
                      have BK228 := n6_
                      have HB := n7_
                      have BK242 := n8_
                      have GW242 := n9_
                      have GE242 := n10_
                      have NB208_242 := n11_
                      have NB242_208 := n12_
                      have NB220_242 := n13_
                      have NB242_220 := n14_
                      have NB228_242 := n15_
                      have NB242_228 := n16_
                      clear n0_ n1_ n2_ n3_ n4_ n5_ n6_ n7_ n8_ n9_ n10_ n11_ n12_ n13_ n14_ n15_ n16_
                      clear hb hbox hg
                      refine hK.out _ _ ⟨(blk_cell BK208.out 0).trans rfl, (blk_cell BK208.out 1).trans rfl, (blk_cell BK208.out 2).trans rfl⟩ (fun hHeld => ?_)
                      clear hK K
                      refine norm_ (a' := ?_) ?_ ?_
                      rotate_left
                      · show Act.put _ (some 17) _ = _
                        simp only [Act.put, List.setIfInBounds_toArray, List.set_cons_zero, List.set_cons_succ, i64_w, i32_w]
                        rfl
                      refine one_ (i := 2) (N := some 60) #[true, true, true, true, false, false, false, false, false, false, true, false, false, false] rfl rfl (one_of HT_.out (by kernel_rfl)) (by decide) (fun K hK => ?_)
                      refine Kd.N_append_rows_step (Kd.slice 5 (Kd.int .u8)) (w0 := w) w.heap.size (by rfl) (.const (.slice none 0 0)) (.tmp 59) 22 25 (.slice none 0 0) 24 rfl Try.underlying22 info25 rfl (by decide) (by omega) (.slice none 0 0) ([] : List (List Int)) l1 _ _ _ (fun k_ => ((P1_ k_ ∨ P2_ k_) ∨ w.heap.size ≤ k_) ∧ some k_ ≠ (.slice Ao30 t214.length co30 : Value).ownBlock ∧ some k_ ≠ (.slice Ao36 t222.length co36 : Value).ownBlock ∧ k_ ≠ gb208 ∧ k_ ≠ gb220 ∧ k_ ≠ gb228 ∧ k_ ≠ gb242) (fun k_ => ((fun k_ => ((P1_ k_ ∨ P2_ k_) ∨ w.heap.size ≤ k_) ∧ some k_ ≠ (.slice Ao30 t214.length co30 : Value).ownBlock ∧ some k_ ≠ (.slice Ao36 t222.length co36 : Value).ownBlock ∧ k_ ≠ gb208 ∧ k_ ≠ gb220 ∧ k_ ≠ gb228 ∧ k_ ≠ gb242)) k_ ∧ some k_ ≠ (.slice none 0 0 : Value).ownBlock) rfl rfl ?aO ?aR (fun _ hk => hk) ?aF ?aB ?aS ?aL ?_
                      (case aR => exact (by skip; exact Kd.V_F (Kd.V_mono (ok' := (fun k_ => ((fun k_ => ((P1_ k_ ∨ P2_ k_) ∨ w.heap.size ≤ k_) ∧ some k_ ≠ (.slice Ao30 t214.length co30 : Value).ownBlock ∧ some k_ ≠ (.slice Ao36 t222.length co36 : Value).ownBlock ∧ k_ ≠ gb208 ∧ k_ ≠ gb220 ∧ k_ ≠ gb228 ∧ k_ ≠ gb242)) k_ ∧ some k_ ≠ (.slice none 0 0 : Value).ownBlock)) (HO_1.out) (fun k_ hk => ⟨⟨hk.1.1, ⟨hk.1.2.1, ⟨hk.1.2.2.1, ⟨hk.1.2.2.2.1, ⟨hk.1.2.2.2.2.1, ⟨hk.1.2.2.2.2.2, hk.2⟩⟩⟩⟩⟩⟩, (by simp [Value.ownBlock])⟩))))
                      (case aB => exact (by repeat (first | (with_reducible first | exact HB.out | apply below_alloc | apply pw_below_drewN | apply below_drew1 | refine below_set ?_ GE208.out | refine below_set ?_ GE220.out | refine below_set ?_ GE228.out | refine below_set ?_ GE242.out) | exact HB.out)))
                      (case aF => exact (fun k_ hk => ⟨(.inr (Nat.le_trans (below_size (by repeat (first | (with_reducible first | exact HB.out | apply below_alloc | apply pw_below_drewN | apply below_drew1 | refine below_set ?_ GE208.out | refine below_set ?_ GE220.out | refine below_set ?_ GE228.out | refine below_set ?_ GE242.out) | exact HB.out))) hk)), Kd.fresh' (Kd.N_lt (by (with_reducible repeat (first | apply Kd.N_alloc | apply Kd.N_drewN | apply Kd.N_drew)); exact HO216.out)) k_ hk, Kd.fresh' (Kd.N_lt (by (with_reducible repeat (first | apply Kd.N_alloc | apply Kd.N_drewN | apply Kd.N_drew)); exact HO224.out)) k_ hk, Kd.freshB (g := gb208) (o := .cells #[.int .i64 a0_0, .slice A0_1 l0_1.length c0_1, .bool a0_2] 24 (0, 0)) (by (with_reducible repeat (first | refine blk_drewN ?_ _ | refine blk_drew ?_ | refine blk_alloc ?_ _)); exact BK208.out) k_ hk, Kd.freshB (g := gb220) (o := .cells #[.int .i64 t213, .slice Ao30 t214.length co30, .bool t217] 24 (0, 0)) (by (with_reducible repeat (first | refine blk_drewN ?_ _ | refine blk_drew ?_ | refine blk_alloc ?_ _)); exact BK220.out) k_ hk, Kd.freshB (g := gb228) (o := .cells #[.int .i64 t221, .slice Ao36 t222.length co36, .bool t225] 24 (0, 0)) (by (with_reducible repeat (first | refine blk_drewN ?_ _ | refine blk_drew ?_ | refine blk_alloc ?_ _)); exact BK228.out) k_ hk, Kd.freshB (g := gb242) (o := .cells #[.int .i64 0, .slice none 0 0, .bool false] 24 (0, 0)) (by (with_reducible repeat (first | refine blk_drewN ?_ _ | refine blk_drew ?_ | refine blk_alloc ?_ _)); exact BK242.out) k_ hk⟩))
                      (case aO => exact ((Kd.N_nil _ _ _ _ (fun k_ => ((P1_ k_ ∨ P2_ k_) ∨ w.heap.size ≤ k_) ∧ some k_ ≠ (.slice Ao30 t214.length co30 : Value).ownBlock ∧ some k_ ≠ (.slice Ao36 t222.length co36 : Value).ownBlock ∧ k_ ≠ gb208 ∧ k_ ≠ gb220 ∧ k_ ≠ gb228 ∧ k_ ≠ gb242))))
                      (case aS => exact (below_size (by repeat (first | (with_reducible first | exact HB.out | apply below_alloc | apply pw_below_drewN | apply below_drew1 | refine below_set ?_ GE208.out | refine below_set ?_ GE220.out | refine below_set ?_ GE228.out | refine below_set ?_ GE242.out) | exact HB.out))))
                      (case aL => have := LMc18.out; omega)
                      intro v230 w40 ho hb hg hat
                      rw [← Ny229.out] at ho
                      have n0_ := Aside0.mk (Kd.V_afterv (Kd.V_apart_nil (by (with_reducible repeat (first | apply Kd.V_alloc | apply Kd.V_drewN | apply Kd.V_drew)); exact HO_1.out)) hg hat)
                      have n1_ := Aside0.mk (Kd.V_afterv (Kd.V_apart_nil (by (with_reducible repeat (first | apply Kd.V_alloc | apply Kd.V_drewN | apply Kd.V_drew)); exact HO_2.out)) hg hat)
                      have n2_ := Aside0.mk (blk_grown (g := gb208) (o := .cells #[.int .i64 a0_0, .slice A0_1 l0_1.length c0_1, .bool a0_2] 24 (0, 0)) (by (with_reducible repeat (first | refine blk_drewN ?_ _ | refine blk_drew ?_ | refine blk_alloc ?_ _)); exact BK208.out) hg (by simp [Value.ownBlock]))
                      have n3_ := Aside0.mk (Kd.N_afterv (Kd.N_apart_nil (by (with_reducible repeat (first | apply Kd.N_alloc | apply Kd.N_drewN | apply Kd.N_drew)); exact HO216.out)) hg hat)
                      have n4_ := Aside0.mk (blk_grown (g := gb220) (o := .cells #[.int .i64 t213, .slice Ao30 t214.length co30, .bool t217] 24 (0, 0)) (by (with_reducible repeat (first | refine blk_drewN ?_ _ | refine blk_drew ?_ | refine blk_alloc ?_ _)); exact BK220.out) hg (by simp [Value.ownBlock]))
                      have n5_ := Aside0.mk (Kd.N_afterv (Kd.N_apart_nil (by (with_reducible repeat (first | apply Kd.N_alloc | apply Kd.N_drewN | apply Kd.N_drew)); exact HO224.out)) hg hat)
                      have n6_ := Aside0.mk (blk_grown (g := gb228) (o := .cells #[.int .i64 t221, .slice Ao36 t222.length co36, .bool t225] 24 (0, 0)) (by (with_reducible repeat (first | refine blk_drewN ?_ _ | refine blk_drew ?_ | refine blk_alloc ?_ _)); exact BK228.out) hg (by simp [Value.ownBlock]))
                      have n7_ := Aside0.mk (blk_grown (g := gb242) (o := .cells #[.int .i64 0, .slice none 0 0, .bool false] 24 (0, 0)) (by (with_reducible repeat (first | refine blk_drewN ?_ _ | refine blk_drew ?_ | refine blk_alloc ?_ _)); exact BK242.out) hg (by simp [Value.ownBlock]))
                      have n8_ := Aside0.mk (hb)
                      have n9_ := Aside0.mk (ho)
                      clear HO_1
                      clear HO_2
                      clear BK208
                      clear HO216
                      clear BK220
                      clear HO224
                      clear BK228
                      clear BK242
                      clear HB
                      have HO_1 := n0_
                      have HO_2 := n1_
                      have BK208 := n2_
                      have HO216 := n3_
                      have BK220 := n4_
                      have HO224 := n5_
                      have BK228 := n6_
                      have BK242 := n7_
                      have HB := n8_
                      have HO231 := n9_
                      clear n0_ n1_ n2_ n3_ n4_ n5_ n6_ n7_ n8_ n9_
                      clear ho hb hg hat
                      refine hK.out _ _ ⟨(blk_cell BK208.out 0).trans rfl, (blk_cell BK208.out 1).trans rfl, (blk_cell BK208.out 2).trans rfl⟩ (fun hHeld => ?_)
                      clear hK K
                      refine norm_ (a' := ?_) ?_ ?_
                      rotate_left
                      · show Act.put _ (some 60) _ = _
                        simp only [Act.put, List.setIfInBounds_toArray, List.set_cons_zero, List.set_cons_succ, i64_w, i32_w]
                        rfl
                      refine one_ (i := 4) (N := some 62) #[true, true, true, true, true, false, false, false, false, false, true, false, false, false] rfl rfl (one_of HT_.out (by kernel_rfl)) (by decide) (fun K hK => ?_)
                      refine Kd.N_append_rows_step (Kd.slice 5 (Kd.int .u8)) (w0 := w) w.heap.size (by rfl) (.tmp 60) (.tmp 61) 22 25 (.slice none 0 0) 24 rfl Try.underlying22 info25 rfl (by decide) (by omega) v230 y229 l2 _ _ _ (fun k_ => ((P1_ k_ ∨ P2_ k_) ∨ w.heap.size ≤ k_) ∧ some k_ ≠ (.slice Ao30 t214.length co30 : Value).ownBlock ∧ some k_ ≠ (.slice Ao36 t222.length co36 : Value).ownBlock ∧ k_ ≠ gb208 ∧ k_ ≠ gb220 ∧ k_ ≠ gb228 ∧ k_ ≠ gb242) (fun k_ => ((fun k_ => ((P1_ k_ ∨ P2_ k_) ∨ w.heap.size ≤ k_) ∧ some k_ ≠ (.slice Ao30 t214.length co30 : Value).ownBlock ∧ some k_ ≠ (.slice Ao36 t222.length co36 : Value).ownBlock ∧ k_ ≠ gb208 ∧ k_ ≠ gb220 ∧ k_ ≠ gb228 ∧ k_ ≠ gb242)) k_ ∧ some k_ ≠ (v230 : Value).ownBlock) rfl rfl ?aO ?aR (fun _ hk => hk) ?aF ?aB ?aS ?aL ?_
                      (case aR => exact (by skip; exact Kd.V_F (Kd.V_mono (ok' := (fun k_ => ((fun k_ => ((P1_ k_ ∨ P2_ k_) ∨ w.heap.size ≤ k_) ∧ some k_ ≠ (.slice Ao30 t214.length co30 : Value).ownBlock ∧ some k_ ≠ (.slice Ao36 t222.length co36 : Value).ownBlock ∧ k_ ≠ gb208 ∧ k_ ≠ gb220 ∧ k_ ≠ gb228 ∧ k_ ≠ gb242)) k_ ∧ some k_ ≠ (v230 : Value).ownBlock)) (HO_2.out) (fun k_ hk => ⟨⟨hk.1.1.1, ⟨hk.1.1.2.1, ⟨hk.1.1.2.2.1, ⟨hk.1.1.2.2.2.1, ⟨hk.1.1.2.2.2.2.1, ⟨hk.1.1.2.2.2.2.2, hk.1.2⟩⟩⟩⟩⟩⟩, hk.2⟩))))
                      (case aB => exact (by repeat (first | (with_reducible first | exact HB.out | apply below_alloc | apply pw_below_drewN | apply below_drew1 | refine below_set ?_ GE208.out | refine below_set ?_ GE220.out | refine below_set ?_ GE228.out | refine below_set ?_ GE242.out) | exact HB.out)))
                      (case aF => exact (fun k_ hk => ⟨(.inr (Nat.le_trans (below_size (by repeat (first | (with_reducible first | exact HB.out | apply below_alloc | apply pw_below_drewN | apply below_drew1 | refine below_set ?_ GE208.out | refine below_set ?_ GE220.out | refine below_set ?_ GE228.out | refine below_set ?_ GE242.out) | exact HB.out))) hk)), Kd.fresh' (Kd.N_lt (by (with_reducible repeat (first | apply Kd.N_alloc | apply Kd.N_drewN | apply Kd.N_drew)); exact HO216.out)) k_ hk, Kd.fresh' (Kd.N_lt (by (with_reducible repeat (first | apply Kd.N_alloc | apply Kd.N_drewN | apply Kd.N_drew)); exact HO224.out)) k_ hk, Kd.freshB (g := gb208) (o := .cells #[.int .i64 a0_0, .slice A0_1 l0_1.length c0_1, .bool a0_2] 24 (0, 0)) (by (with_reducible repeat (first | refine blk_drewN ?_ _ | refine blk_drew ?_ | refine blk_alloc ?_ _)); exact BK208.out) k_ hk, Kd.freshB (g := gb220) (o := .cells #[.int .i64 t213, .slice Ao30 t214.length co30, .bool t217] 24 (0, 0)) (by (with_reducible repeat (first | refine blk_drewN ?_ _ | refine blk_drew ?_ | refine blk_alloc ?_ _)); exact BK220.out) k_ hk, Kd.freshB (g := gb228) (o := .cells #[.int .i64 t221, .slice Ao36 t222.length co36, .bool t225] 24 (0, 0)) (by (with_reducible repeat (first | refine blk_drewN ?_ _ | refine blk_drew ?_ | refine blk_alloc ?_ _)); exact BK228.out) k_ hk, Kd.freshB (g := gb242) (o := .cells #[.int .i64 0, .slice none 0 0, .bool false] 24 (0, 0)) (by (with_reducible repeat (first | refine blk_drewN ?_ _ | refine blk_drew ?_ | refine blk_alloc ?_ _)); exact BK242.out) k_ hk⟩))
                      (case aO => exact (by (with_reducible repeat (first | apply Kd.N_alloc | apply Kd.N_drewN | apply Kd.N_drew)); exact HO231.out))
                      (case aS => exact (below_size (by repeat (first | (with_reducible first | exact HB.out | apply below_alloc | apply pw_below_drewN | apply below_drew1 | refine below_set ?_ GE208.out | refine below_set ?_ GE220.out | refine below_set ?_ GE228.out | refine below_set ?_ GE242.out) | exact HB.out))))
                      (case aL => have := LMc19.out; omega)
                      intro v233 w41 ho hb hg hat
                      rw [← Ny232.out] at ho
                      have n0_ := Aside0.mk (Kd.V_afterv (ok := (fun k_ => ((P1_ k_ ∨ P2_ k_) ∨ w.heap.size ≤ k_) ∧ some k_ ≠ (.slice Ao30 t214.length co30 : Value).ownBlock ∧ some k_ ≠ (.slice Ao36 t222.length co36 : Value).ownBlock ∧ k_ ≠ gb208 ∧ k_ ≠ gb220 ∧ k_ ≠ gb228 ∧ k_ ≠ gb242)) (by (with_reducible repeat (first | apply Kd.V_alloc | apply Kd.V_drewN | apply Kd.V_drew)); exact Kd.V_mono HO_1.out (fun _ hk => ⟨⟨hk.1.1.1, ⟨hk.1.1.2.1, ⟨hk.1.1.2.2.1, ⟨hk.1.1.2.2.2.1, ⟨hk.1.1.2.2.2.2.1, ⟨hk.1.1.2.2.2.2.2, hk.1.2⟩⟩⟩⟩⟩⟩, hk.2⟩)) hg hat)
                      have n1_ := Aside0.mk (Kd.V_afterv (ok := (fun k_ => ((P1_ k_ ∨ P2_ k_) ∨ w.heap.size ≤ k_) ∧ some k_ ≠ (.slice Ao30 t214.length co30 : Value).ownBlock ∧ some k_ ≠ (.slice Ao36 t222.length co36 : Value).ownBlock ∧ k_ ≠ gb208 ∧ k_ ≠ gb220 ∧ k_ ≠ gb228 ∧ k_ ≠ gb242)) (by (with_reducible repeat (first | apply Kd.V_alloc | apply Kd.V_drewN | apply Kd.V_drew)); exact Kd.V_mono HO_2.out (fun _ hk => ⟨⟨hk.1.1.1, ⟨hk.1.1.2.1, ⟨hk.1.1.2.2.1, ⟨hk.1.1.2.2.2.1, ⟨hk.1.1.2.2.2.2.1, ⟨hk.1.1.2.2.2.2.2, hk.1.2⟩⟩⟩⟩⟩⟩, hk.2⟩)) hg hat)
                      have n2_ := Aside0.mk (blk_grown (g := gb208) (o := .cells #[.int .i64 a0_0, .slice A0_1 l0_1.length c0_1, .bool a0_2] 24 (0, 0)) (by (with_reducible repeat (first | refine blk_drewN ?_ _ | refine blk_drew ?_ | refine blk_alloc ?_ _)); exact BK208.out) hg (Kd.N_ne HO231.out BK208.out (by decide)))
                      have n3_ := Aside0.mk (Kd.N_afterv (ok := (fun k_ => ((P1_ k_ ∨ P2_ k_) ∨ w.heap.size ≤ k_) ∧ some k_ ≠ (.slice Ao36 t222.length co36 : Value).ownBlock ∧ k_ ≠ gb208 ∧ k_ ≠ gb220 ∧ k_ ≠ gb228 ∧ k_ ≠ gb242)) (by (with_reducible repeat (first | apply Kd.N_alloc | apply Kd.N_drewN | apply Kd.N_drew)); exact Kd.N_mono HO216.out (fun _ hk => ⟨⟨hk.1.1.1, ⟨hk.1.1.2.1, ⟨hk.1.1.2.2.1, ⟨hk.1.1.2.2.2.1, ⟨hk.1.1.2.2.2.2, hk.1.2⟩⟩⟩⟩⟩, hk.2⟩)) hg hat)
                      have n4_ := Aside0.mk (blk_grown (g := gb220) (o := .cells #[.int .i64 t213, .slice Ao30 t214.length co30, .bool t217] 24 (0, 0)) (by (with_reducible repeat (first | refine blk_drewN ?_ _ | refine blk_drew ?_ | refine blk_alloc ?_ _)); exact BK220.out) hg (Kd.N_ne HO231.out BK220.out (by decide)))
                      have n5_ := Aside0.mk (Kd.N_afterv (ok := (fun k_ => ((P1_ k_ ∨ P2_ k_) ∨ w.heap.size ≤ k_) ∧ some k_ ≠ (.slice Ao30 t214.length co30 : Value).ownBlock ∧ k_ ≠ gb208 ∧ k_ ≠ gb220 ∧ k_ ≠ gb228 ∧ k_ ≠ gb242)) (by (with_reducible repeat (first | apply Kd.N_alloc | apply Kd.N_drewN | apply Kd.N_drew)); exact Kd.N_mono HO224.out (fun _ hk => ⟨⟨hk.1.1.1, ⟨hk.1.1.2.1, ⟨hk.1.1.2.2.1, ⟨hk.1.1.2.2.2.1, ⟨hk.1.1.2.2.2.2, hk.1.2⟩⟩⟩⟩⟩, hk.2⟩)) hg hat)
                      have n6_ := Aside0.mk (blk_grown (g := gb228) (o := .cells #[.int .i64 t221, .slice Ao36 t222.length co36, .bool t225] 24 (0, 0)) (by (with_reducible repeat (first | refine blk_drewN ?_ _ | refine blk_drew ?_ | refine blk_alloc ?_ _)); exact BK228.out) hg (Kd.N_ne HO231.out BK228.out (by decide)))
                      have n7_ := Aside0.mk (blk_grown (g := gb242) (o := .cells #[.int .i64 0, .slice none 0 0, .bool false] 24 (0, 0)) (by (with_reducible repeat (first | refine blk_drewN ?_ _ | refine blk_drew ?_ | refine blk_alloc ?_ _)); exact BK242.out) hg (Kd.N_ne HO231.out BK242.out (by decide)))
                      have n8_ := Aside0.mk (hb)
                      have n9_ := Aside0.mk (ho)
                      clear HO_1
                      clear HO_2
                      clear BK208
                      clear HO216
                      clear BK220
                      clear HO224
                      clear BK228
                      clear BK242
                      clear HB
                      clear HO231
                      have HO_1 := n0_
                      have HO_2 := n1_
                      have BK208 := n2_
                      have HO216 := n3_
                      have BK220 := n4_
                      have HO224 := n5_
                      have BK228 := n6_
                      have BK242 := n7_
                      have HB := n8_
                      have HO234 := n9_
                      clear n0_ n1_ n2_ n3_ n4_ n5_ n6_ n7_ n8_ n9_
                      clear ho hb hg hat
                      obtain ⟨Ao42, co42, eo42⟩ := Kd.N_slice HO234.out
                      (first | subst eo42 | (injection eo42 with f1_ f2_ f3_; have f4_ := f1_.symm; have f5_ := f3_.symm; clear f1_ f2_ f3_; subst f4_; subst f5_))
                      refine hK.out _ _ ⟨(blk_cell BK208.out 0).trans rfl, (blk_cell BK208.out 1).trans rfl, (blk_cell BK208.out 2).trans rfl⟩ (fun hHeld => ?_)
                      clear hK K
                      refine norm_ (a' := ?_) ?_ ?_
                      rotate_left
                      · show Act.put _ (some 62) _ = _
                        simp only [Act.put, List.setIfInBounds_toArray, List.set_cons_zero, List.set_cons_succ, i64_w, i32_w]
                        rfl
                      refine one_ (i := 5) (N := some 63) #[true, true, true, true, true, true, false, false, false, false, true, false, false, false] rfl rfl (one_of HT_.out (by kernel_rfl)) (by decide) (fun K hK => ?_)
                      refine goes_ Try.func15 (by kernel_rfl) rfl #[.agg #[.int .i64 a0_0, .slice A0_1 l0_1.length c0_1, .bool a0_2], .slice Ao42 y232.length co42] (by rfl) rfl rfl (by (try simp only [List.map_toArray, List.map_cons, List.map_nil]); first | done | rfl | (simp only [List.length_drop, List.length_take]; rfl)) ?_
                      with_reducible refine (tape_Fill.calls a0_0 _ _ l0_1 a0_2 _ _ y232 t235 t236 t239 t240 t241 _ ?side1 ?side2 ?side3 ?side4 A20.out).mono ?_
                      (case side1 => repeat (first | exact (Kd.C_below HR0_1.out HB.out) | (with_reducible refine Kd.C_alloc ?_ _) | (with_reducible refine Kd.C_drewN ?_ _) | (with_reducible refine Kd.C_drew ?_)))
                      (case side2 => exact HC0_1.out)
                      (case side3 => repeat (first | exact (Kd.N_reads' HO234.out).2.2 | (with_reducible refine Kd.C_alloc ?_ _) | (with_reducible refine Kd.C_drewN ?_ _) | (with_reducible refine Kd.C_drew ?_)))
                      (case side4 => exact (Kd.N_reads' HO234.out).2.1)
                      rintro e w43 ⟨v237, rfl, ho0, hb⟩
                      refine ⟨_, rfl, ?_⟩
                      have n0_ := Aside0.mk (Kd.V_elder' (by (with_reducible repeat (first | apply Kd.V_alloc | apply Kd.V_drewN | apply Kd.V_drew)); exact HO_1.out) (by first | exact Kd.N_base ho0 | exact Kd.S_base ho0 | exact Kd.R_base ho0) hb)
                      have n1_ := Aside0.mk (Kd.V_elder' (by (with_reducible repeat (first | apply Kd.V_alloc | apply Kd.V_drewN | apply Kd.V_drew)); exact HO_2.out) (by first | exact Kd.N_base ho0 | exact Kd.S_base ho0 | exact Kd.R_base ho0) hb)
                      have n2_ := Aside0.mk (Kd.N_elder' (by (with_reducible repeat (first | apply Kd.N_alloc | apply Kd.N_drewN | apply Kd.N_drew)); exact HO216.out) (by first | exact Kd.N_base ho0 | exact Kd.S_base ho0 | exact Kd.R_base ho0) hb)
                      have n3_ := Aside0.mk (Kd.N_elder' (by (with_reducible repeat (first | apply Kd.N_alloc | apply Kd.N_drewN | apply Kd.N_drew)); exact HO224.out) (by first | exact Kd.N_base ho0 | exact Kd.S_base ho0 | exact Kd.R_base ho0) hb)
                      have n4_ := Aside0.mk (Kd.N_elder' (by (with_reducible repeat (first | apply Kd.N_alloc | apply Kd.N_drewN | apply Kd.N_drew)); exact HO234.out) (by first | exact Kd.N_base ho0 | exact Kd.S_base ho0 | exact Kd.R_base ho0) hb)
                      have n5_ := Aside0.mk (Kd.N_lower (Kd.N_mono (ok' := fun k_ => ((P1_ k_ ∨ P2_ k_) ∨ w.heap.size ≤ k_) ∧ some k_ ≠ (.slice Ao30 t214.length co30 : Value).ownBlock ∧ some k_ ≠ (.slice Ao36 t222.length co36 : Value).ownBlock ∧ some k_ ≠ (.slice Ao42 y232.length co42 : Value).ownBlock ∧ k_ ≠ gb208 ∧ k_ ≠ gb220 ∧ k_ ≠ gb228 ∧ k_ ≠ gb242) (Kd.S_N (Kd.S_bound ho0)) (fun k_ hk_ => ⟨(.inr (Nat.le_trans (below_size (by repeat (first | (with_reducible first | exact HB.out | apply below_alloc | apply pw_below_drewN | apply below_drew1 | refine below_set ?_ GE208.out | refine below_set ?_ GE220.out | refine below_set ?_ GE228.out | refine below_set ?_ GE242.out) | exact HB.out))) hk_.2.1)), (Kd.fresh' (Kd.N_lt (by (with_reducible repeat (first | apply Kd.N_alloc | apply Kd.N_drewN | apply Kd.N_drew)); exact HO216.out)) k_ hk_.2.1), (Kd.fresh' (Kd.N_lt (by (with_reducible repeat (first | apply Kd.N_alloc | apply Kd.N_drewN | apply Kd.N_drew)); exact HO224.out)) k_ hk_.2.1), (Kd.fresh' (Kd.N_lt (by (with_reducible repeat (first | apply Kd.N_alloc | apply Kd.N_drewN | apply Kd.N_drew)); exact HO234.out)) k_ hk_.2.1), (Kd.freshB (g := gb208) (o := .cells #[.int .i64 a0_0, .slice A0_1 l0_1.length c0_1, .bool a0_2] 24 (0, 0)) (by (with_reducible repeat (first | refine blk_drewN ?_ _ | refine blk_drew ?_ | refine blk_alloc ?_ _)); exact BK208.out) k_ hk_.2.1), (Kd.freshB (g := gb220) (o := .cells #[.int .i64 t213, .slice Ao30 t214.length co30, .bool t217] 24 (0, 0)) (by (with_reducible repeat (first | refine blk_drewN ?_ _ | refine blk_drew ?_ | refine blk_alloc ?_ _)); exact BK220.out) k_ hk_.2.1), (Kd.freshB (g := gb228) (o := .cells #[.int .i64 t221, .slice Ao36 t222.length co36, .bool t225] 24 (0, 0)) (by (with_reducible repeat (first | refine blk_drewN ?_ _ | refine blk_drew ?_ | refine blk_alloc ?_ _)); exact BK228.out) k_ hk_.2.1), (Kd.freshB (g := gb242) (o := .cells #[.int .i64 0, .slice none 0 0, .bool false] 24 (0, 0)) (by (with_reducible repeat (first | refine blk_drewN ?_ _ | refine blk_drew ?_ | refine blk_alloc ?_ _)); exact BK242.out) k_ hk_.2.1)⟩)) (below_size (by repeat (first | (with_reducible first | exact HB.out | apply below_alloc | apply pw_below_drewN | apply below_drew1 | refine below_set ?_ GE208.out | refine below_set ?_ GE220.out | refine below_set ?_ GE228.out | refine below_set ?_ GE242.out) | exact HB.out))))
                      have n6_ := Aside0.mk (blk_below (g := gb208) (o := .cells #[.int .i64 a0_0, .slice A0_1 l0_1.length c0_1, .bool a0_2] 24 (0, 0)) (by (with_reducible repeat (first | refine blk_drewN ?_ _ | refine blk_drew ?_ | refine blk_alloc ?_ _)); exact BK208.out) hb)
                      have n7_ := Aside0.mk (blk_below (g := gb220) (o := .cells #[.int .i64 t213, .slice Ao30 t214.length co30, .bool t217] 24 (0, 0)) (by (with_reducible repeat (first | refine blk_drewN ?_ _ | refine blk_drew ?_ | refine blk_alloc ?_ _)); exact BK220.out) hb)
                      have n8_ := Aside0.mk (blk_below (g := gb228) (o := .cells #[.int .i64 t221, .slice Ao36 t222.length co36, .bool t225] 24 (0, 0)) (by (with_reducible repeat (first | refine blk_drewN ?_ _ | refine blk_drew ?_ | refine blk_alloc ?_ _)); exact BK228.out) hb)
                      have n9_ := Aside0.mk (blk_below (g := gb242) (o := .cells #[.int .i64 0, .slice none 0 0, .bool false] 24 (0, 0)) (by (with_reducible repeat (first | refine blk_drewN ?_ _ | refine blk_drew ?_ | refine blk_alloc ?_ _)); exact BK242.out) hb)
                      have n10_ := Aside0.mk (below_step (by repeat (first | (with_reducible first | exact HB.out | apply below_alloc | apply pw_below_drewN | apply below_drew1 | refine below_set ?_ GE208.out | refine below_set ?_ GE220.out | refine below_set ?_ GE228.out | refine below_set ?_ GE242.out) | exact HB.out)) hb)
                      clear HO_1
                      clear HO_2
                      clear HO216
                      clear HO224
                      clear HO234
                      clear BK208
                      clear BK220
                      clear BK228
                      clear BK242
                      clear HB
                      have HO_1 := n0_
                      have HO_2 := n1_
                      have HO216 := n2_
                      have HO224 := n3_
                      have HO234 := n4_
                      have HO238 := n5_
                      have BK208 := n6_
                      have BK220 := n7_
                      have BK228 := n8_
                      have BK242 := n9_
                      have HB := n10_
                      clear n0_ n1_ n2_ n3_ n4_ n5_ n6_ n7_ n8_ n9_ n10_
                      (try clear hb)
                      (try clear hb2)
                      (try clear hk)
                      (try clear hi)
                      (try clear ho0)
                      refine hK.out _ _ ⟨(blk_cell BK208.out 0).trans rfl, (blk_cell BK208.out 1).trans rfl, (blk_cell BK208.out 2).trans rfl⟩ (fun hHeld => ?_)
                      clear hK K
                      refine norm_ (a' := ?_) ?_ ?_
                      rotate_left
                      · show Act.put _ (some 63) _ = _
                        simp only [Act.put, List.setIfInBounds_toArray, List.set_cons_zero, List.set_cons_succ, i64_w, i32_w]
                        rfl
                      refine pure_ (i := 6) (N := some 57) (v := ?_) (a' := ?_) #[true, true, true, true, true, true, true, false, false, false, true, false, false, false] rfl rfl (any_of HT_.out (by kernel_rfl)) (fun _ _ _ h => h) (Or.inl ⟨by rfl, ?_⟩) ?_ ?_
                      rotate_left
                      · intro w'
                        go_simp
                        with_reducible rfl
                      rotate_left
                      · simp only [Act.put, List.setIfInBounds_toArray, List.set_cons_zero, List.set_cons_succ, i64_w, i32_w]
                        rfl
                      refine pure_ (i := 7) (N := some 64) (v := ?_) (a' := ?_) #[true, true, true, true, true, true, true, true, false, false, true, false, false, false] rfl rfl (any_of HT_.out (by kernel_rfl)) (fun _ _ _ h => h) (Or.inl ⟨by rfl, ?_⟩) ?_ ?_
                      rotate_left
                      · intro w'
                        go_simp
                        with_reducible rfl
                      rotate_left
                      · simp only [Act.put, List.setIfInBounds_toArray, List.set_cons_zero, List.set_cons_succ, i64_w, i32_w]
                        rfl
                      refine pure_ (i := 8) (N := some 65) (v := ?_) (a' := ?_) #[true, true, true, true, true, true, true, true, true, false, true, false, false, false] rfl rfl (any_of HT_.out (by kernel_rfl)) (fun _ _ _ h => h) (Or.inl ⟨by rfl, ?_⟩) ?_ ?_
                      rotate_left
                      · intro w'
                        go_simp
                        with_reducible rfl
                      rotate_left
                      · simp only [Act.put, List.setIfInBounds_toArray, List.set_cons_zero, List.set_cons_succ, i64_w, i32_w]
                        rfl
                      refine pure_ (i := 9) (N := some 66) (v := ?_) (a' := ?_) #[true, true, true, true, true, true, true, true, true, true, true, false, false, false] rfl rfl (any_of HT_.out (by kernel_rfl)) (fun _ _ _ h => h) (Or.inl ⟨by rfl, ?_⟩) ?_ ?_
                      rotate_left
                      · intro w'
                        go_simp
                        with_reducible rfl
                      rotate_left
                      · simp only [Act.put, List.setIfInBounds_toArray, List.set_cons_zero, List.set_cons_succ, i64_w, i32_w]
                        rfl
                      exact norm_ (by simp only [putAll, Act.put, List.setIfInBounds_toArray, List.set_cons_zero, List.set_cons_succ]) (hCont (v230, .slice Ao42 y232.length co42, v237, gb242) _ ⟨hHeld, (by (with_reducible repeat (first | apply Kd.N_alloc | apply Kd.N_drewN | apply Kd.N_drew)); exact Kd.N_mono HO216.out (fun _ hk => ⟨hk.1.1.1, ⟨hk.1.1.2.1, ⟨hk.1.2, ⟨hk.2, ⟨hk.1.1.2.2.1, ⟨hk.1.1.2.2.2.1, ⟨hk.1.1.2.2.2.2.1, hk.1.1.2.2.2.2.2⟩⟩⟩⟩⟩⟩⟩)), (by (with_reducible repeat (first | apply Kd.N_alloc | apply Kd.N_drewN | apply Kd.N_drew)); exact Kd.N_mono HO224.out (fun _ hk => ⟨hk.1.1.1, ⟨hk.1.1.2.1, ⟨hk.1.2, ⟨hk.2, ⟨hk.1.1.2.2.1, ⟨hk.1.1.2.2.2.1, ⟨hk.1.1.2.2.2.2.1, hk.1.1.2.2.2.2.2⟩⟩⟩⟩⟩⟩⟩)), (by (with_reducible repeat (first | apply Kd.N_alloc | apply Kd.N_drewN | apply Kd.N_drew)); exact Kd.N_mono HO234.out (fun _ hk => ⟨hk.1.1, ⟨hk.1.2.1, ⟨hk.1.2.2.1, ⟨hk.2, ⟨hk.1.2.2.2.1, ⟨hk.1.2.2.2.2.1, ⟨hk.1.2.2.2.2.2.1, hk.1.2.2.2.2.2.2⟩⟩⟩⟩⟩⟩⟩)), (by (with_reducible repeat (first | apply Kd.N_alloc | apply Kd.N_drewN | apply Kd.N_drew)); exact HO238.out), (by (with_reducible repeat (first | apply Kd.V_alloc | apply Kd.V_drewN | apply Kd.V_drew)); exact Kd.V_mono HO_1.out (fun _ hk => ⟨hk.1.1.1, ⟨hk.1.1.2.1, ⟨hk.1.1.2.2.1, ⟨hk.1.2, ⟨hk.2, ⟨hk.1.1.2.2.2.1, ⟨hk.1.1.2.2.2.2.1, ⟨hk.1.1.2.2.2.2.2.1, hk.1.1.2.2.2.2.2.2⟩⟩⟩⟩⟩⟩⟩⟩)), (by (with_reducible repeat (first | apply Kd.V_alloc | apply Kd.V_drewN | apply Kd.V_drew)); exact Kd.V_mono HO_2.out (fun _ hk => ⟨hk.1.1.1, ⟨hk.1.1.2.1, ⟨hk.1.1.2.2.1, ⟨hk.1.2, ⟨hk.2, ⟨hk.1.1.2.2.2.1, ⟨hk.1.1.2.2.2.2.1, ⟨hk.1.1.2.2.2.2.2.1, hk.1.1.2.2.2.2.2.2⟩⟩⟩⟩⟩⟩⟩⟩)), (by (with_reducible repeat (first | refine blk_drewN ?_ _ | refine blk_drew ?_ | refine blk_alloc ?_ _)); exact BK208.out), (by (with_reducible repeat (first | refine blk_drewN ?_ _ | refine blk_drew ?_ | refine blk_alloc ?_ _)); exact BK220.out), (by (with_reducible repeat (first | refine blk_drewN ?_ _ | refine blk_drew ?_ | refine blk_alloc ?_ _)); exact BK228.out), (by (with_reducible repeat (first | refine blk_drewN ?_ _ | refine blk_drew ?_ | refine blk_alloc ?_ _)); exact BK242.out), GW242.out, GE242.out, NB208_242.out, NB242_208.out, NB220_242.out, NB242_220.out, NB228_242.out, NB242_228.out, (by repeat (first | (with_reducible first | exact HB.out | apply below_alloc | apply pw_below_drewN | apply below_drew1 | refine below_set ?_ GE208.out | refine below_set ?_ GE220.out | refine below_set ?_ GE228.out | refine below_set ?_ GE242.out) | exact HB.out))⟩)
                  rintro ⟨v230, v233, v237, gb242⟩ w44 ⟨hS_, h0_, h1_, h2_, h3_, h4_, h5_, h6_, h7_, h8_, h9_, h10_, h11_, h12_, h13_, h14_, h15_, h16_, h17_, h18_⟩
                  have n0_ : Aside0 (Kd.N (Kd.slice 5 (Kd.int .u8)) 25 w44 w.heap.size (fun k_ => ((P1_ k_ ∨ P2_ k_) ∨ w.heap.size ≤ k_) ∧ some k_ ≠ (.slice Ao36 t222.length co36 : Value).ownBlock ∧ some k_ ≠ (v233 : Value).ownBlock ∧ some k_ ≠ (v237 : Value).ownBlock ∧ k_ ≠ gb208 ∧ k_ ≠ gb220 ∧ k_ ≠ gb228 ∧ k_ ≠ gb242) (.slice Ao30 t214.length co30) t214) := ⟨h0_⟩
                  have n1_ : Aside0 (Kd.N (Kd.slice 5 (Kd.int .u8)) 25 w44 w.heap.size (fun k_ => ((P1_ k_ ∨ P2_ k_) ∨ w.heap.size ≤ k_) ∧ some k_ ≠ (.slice Ao30 t214.length co30 : Value).ownBlock ∧ some k_ ≠ (v233 : Value).ownBlock ∧ some k_ ≠ (v237 : Value).ownBlock ∧ k_ ≠ gb208 ∧ k_ ≠ gb220 ∧ k_ ≠ gb228 ∧ k_ ≠ gb242) (.slice Ao36 t222.length co36) t222) := ⟨h1_⟩
                  have n2_ : Aside0 (Kd.N (Kd.slice 5 (Kd.int .u8)) 25 w44 w.heap.size (fun k_ => ((P1_ k_ ∨ P2_ k_) ∨ w.heap.size ≤ k_) ∧ some k_ ≠ (.slice Ao30 t214.length co30 : Value).ownBlock ∧ some k_ ≠ (.slice Ao36 t222.length co36 : Value).ownBlock ∧ some k_ ≠ (v237 : Value).ownBlock ∧ k_ ≠ gb208 ∧ k_ ≠ gb220 ∧ k_ ≠ gb228 ∧ k_ ≠ gb242) v233 y232) := ⟨h2_⟩
                  have n3_ : Aside0 (Kd.N (Kd.slice 5 (Kd.int .u8)) 25 w44 w.heap.size (fun k_ => ((P1_ k_ ∨ P2_ k_) ∨ w.heap.size ≤ k_) ∧ some k_ ≠ (.slice Ao30 t214.length co30 : Value).ownBlock ∧ some k_ ≠ (.slice Ao36 t222.length co36 : Value).ownBlock ∧ some k_ ≠ (v233 : Value).ownBlock ∧ k_ ≠ gb208 ∧ k_ ≠ gb220 ∧ k_ ≠ gb228 ∧ k_ ≠ gb242) v237 t236) := ⟨h3_⟩
                  have n4_ : Aside0 (Kd.V (Kd.slice 5 (Kd.int .u8)) 25 w44 w.heap.size (fun k_ => ((P1_ k_ ∨ P2_ k_) ∨ w.heap.size ≤ k_) ∧ some k_ ≠ (.slice Ao30 t214.length co30 : Value).ownBlock ∧ some k_ ≠ (.slice Ao36 t222.length co36 : Value).ownBlock ∧ some k_ ≠ (v233 : Value).ownBlock ∧ some k_ ≠ (v237 : Value).ownBlock ∧ k_ ≠ gb208 ∧ k_ ≠ gb220 ∧ k_ ≠ gb228 ∧ k_ ≠ gb242) (.slice A1 l1.length c1) l1) := ⟨h4_⟩
                  have n5_ : Aside0 (Kd.V (Kd.slice 5 (Kd.int .u8)) 25 w44 w.heap.size (fun k_ => ((P1_ k_ ∨ P2_ k_) ∨ w.heap.size ≤ k_) ∧ some k_ ≠ (.slice Ao30 t214.length co30 : Value).ownBlock ∧ some k_ ≠ (.slice Ao36 t222.length co36 : Value).ownBlock ∧ some k_ ≠ (v233 : Value).ownBlock ∧ some k_ ≠ (v237 : Value).ownBlock ∧ k_ ≠ gb208 ∧ k_ ≠ gb220 ∧ k_ ≠ gb228 ∧ k_ ≠ gb242) (.slice A2 l2.length c2) l2) := ⟨h5_⟩
                  have n6_ : Aside0 (w44.heap[gb208]? = some (.cells #[.int .i64 a0_0, .slice A0_1 l0_1.length c0_1, .bool a0_2] 24 (0, 0))) := ⟨h6_⟩
                  have n7_ : Aside0 (w44.heap[gb220]? = some (.cells #[.int .i64 t213, .slice Ao30 t214.length co30, .bool t217] 24 (0, 0))) := ⟨h7_⟩
                  have n8_ : Aside0 (w44.heap[gb228]? = some (.cells #[.int .i64 t221, .slice Ao36 t222.length co36, .bool t225] 24 (0, 0))) := ⟨h8_⟩
                  have n9_ : Aside0 (w44.heap[gb242]? = some (.cells #[.int .i64 0, .slice none 0 0, .bool false] 24 (0, 0))) := ⟨h9_⟩
                  have n10_ : Aside0 (w.heap.size ≤ gb242) := ⟨h10_⟩
                  have n11_ : Aside0 (w.heap.size ≤ gb242) := ⟨h11_⟩
                  have n12_ : Aside0 (gb208 ≠ gb242) := ⟨h12_⟩
                  have n13_ : Aside0 (gb242 ≠ gb208) := ⟨h13_⟩
                  have n14_ : Aside0 (gb220 ≠ gb242) := ⟨h14_⟩
                  have n15_ : Aside0 (gb242 ≠ gb220) := ⟨h15_⟩
                  have n16_ : Aside0 (gb228 ≠ gb242) := ⟨h16_⟩
                  have n17_ : Aside0 (gb242 ≠ gb228) := ⟨h17_⟩
                  have n18_ : Aside0 (Below w.heap.size w w44) := ⟨h18_⟩
                  clear HO_1
                  clear HO_2
                  clear HO216
                  clear HO224
                  clear BK208
                  clear BK220
                  clear BK228
                  clear HB
                  clear h0_ h1_ h2_ h3_ h4_ h5_ h6_ h7_ h8_ h9_ h10_ h11_ h12_ h13_ h14_ h15_ h16_ h17_ h18_
                  have HO216 := n0_
                  have HO224 := n1_
                  have HO234 := n2_
                  have HO238 := n3_
                  have HO_1 := n4_
                  have HO_2 := n5_
                  have BK208 := n6_
                  have BK220 := n7_
                  have BK228 := n8_
                  have BK242 := n9_
                  have GW242 := n10_
                  have GE242 := n11_
                  have NB208_242 := n12_
                  have NB242_208 := n13_
                  have NB220_242 := n14_
                  have NB242_220 := n15_
                  have NB228_242 := n16_
                  have NB242_228 := n17_
                  have HB := n18_
                  clear n0_ n1_ n2_ n3_ n4_ n5_ n6_ n7_ n8_ n9_ n10_ n11_ n12_ n13_ n14_ n15_ n16_ n17_ n18_
                  have hHeld : w44.cell? ⟨gb208, 0, none⟩ = some (.int .i64 a0_0) ∧ w44.cell? ⟨gb208, 1, none⟩ = some (.slice A0_1 l0_1.length c0_1) ∧ w44.cell? ⟨gb208, 2, none⟩ = some (.bool a0_2) := hS_
                  obtain ⟨Ao46, co46, eo46⟩ := Kd.N_slice HO238.out
                  (first | subst eo46 | (injection eo46 with f1_ f2_ f3_; have f4_ := f1_.symm; have f5_ := f3_.symm; clear f1_ f2_ f3_; subst f4_; subst f5_))
                  refine norm_ (a' := ?_) ?_ ?_
                  rotate_left
                  · simp only [putAll, Act.put, List.setIfInBounds_toArray, List.set_cons_zero, List.set_cons_succ]
                    rfl
                  refine one_ (i := 11) (N := none) #[true, true, true, true, true, true, true, true, true, true, true, true, false, false] rfl rfl (one_of HT_.out (by kernel_rfl)) (by decide) (fun K hK => ?_)
                  have hs45 : w44.cell? ⟨gb242, 0, none⟩ = some (.int .i64 0) := (blk_cell BK242.out 0).trans rfl
                  have hfs45 := blk_frozen BK242.out 0
                  have hns45_0 := NB208_242.out
                  have hns45_1 := NB220_242.out
                  have hns45_2 := NB228_242.out
                  have hms45_0 := NB242_208.out
                  have hms45_1 := NB242_220.out
                  have hms45_2 := NB242_228.out
                  have hs47 : w44.cell? ⟨gb242, 1, none⟩ = some (.slice none 0 0) := (blk_cell BK242.out 1).trans rfl
                  have hfs47 := blk_frozen BK242.out 1
                  have hns47_0 := NB208_242.out
                  have hns47_1 := NB220_242.out
                  have hns47_2 := NB228_242.out
                  have hms47_0 := NB242_208.out
                  have hms47_1 := NB242_220.out
                  have hms47_2 := NB242_228.out
                  have hs48 : w44.cell? ⟨gb242, 2, none⟩ = some (.bool false) := (blk_cell BK242.out 2).trans rfl
                  have hfs48 := blk_frozen BK242.out 2
                  have hns48_0 := NB208_242.out
                  have hns48_1 := NB220_242.out
                  have hns48_2 := NB228_242.out
                  have hms48_0 := NB242_208.out
                  have hms48_1 := NB242_220.out
                  have hms48_2 := NB242_228.out
                  refine skip_ (w1 := ?_) (by rfl) rfl ?_ ?_
                  rotate_left
                  · go_simp
                    rfl
                  refine hK.out _ _ ⟨((cell_far (p := ⟨gb242, _, none⟩) NB208_242.out _).trans (((cell_far (p := ⟨gb242, _, none⟩) NB208_242.out _).trans (((cell_far (p := ⟨gb242, _, none⟩) NB208_242.out _).trans (hHeld.1)))))), ((cell_far (p := ⟨gb242, _, none⟩) NB208_242.out _).trans (((cell_far (p := ⟨gb242, _, none⟩) NB208_242.out _).trans (((cell_far (p := ⟨gb242, _, none⟩) NB208_242.out _).trans (hHeld.2.1)))))), ((cell_far (p := ⟨gb242, _, none⟩) NB208_242.out _).trans (((cell_far (p := ⟨gb242, _, none⟩) NB208_242.out _).trans (((cell_far (p := ⟨gb242, _, none⟩) NB208_242.out _).trans (hHeld.2.2))))))⟩ (fun hHeld => ?_)
                  clear hK K
                  refine pure_ (i := 12) (N := some 18) (v := ?_) (a' := ?_) #[true, true, true, true, true, true, true, true, true, true, true, true, true, false] rfl rfl (any_of HT_.out (by kernel_rfl)) (fun _ _ _ h => h) (Or.inl ⟨by rfl, ?_⟩) ?_ ?_
                  rotate_left
                  · intro w'
                    go_simp
                    with_reducible rfl
                  rotate_left
                  · simp only [Act.put, List.setIfInBounds_toArray, List.set_cons_zero, List.set_cons_succ, i64_w, i32_w]
                    rfl
                  refine pure_ (i := 13) (N := some 19) (v := ?_) (a' := ?_) #[true, true, true, true, true, true, true, true, true, true, true, true, true, true] rfl rfl (any_of HT_.out (by kernel_rfl)) (fun _ _ _ h => h) (Or.inl ⟨by rfl, ?_⟩) ?_ ?_
                  rotate_left
                  · intro w'
                    go_simp
                    with_reducible rfl
                  rotate_left
                  · simp only [Act.put, List.setIfInBounds_toArray, List.set_cons_zero, List.set_cons_succ, i64_w, i32_w]
                    rfl
                  refine done_ (done_of HT_.out (by kernel_rfl)) ?_
                  have hnb49 := NB242_208.out
                  have hnc49 := NB208_242.out
                  have hnb50 := NB242_220.out
                  have hnc50 := NB220_242.out
                  have hnb51 := NB242_228.out
                  have hnc51 := NB228_242.out
                  have hcz52_0 : w44.cell? ⟨gb242, 0, none⟩ = some (.int .i64 0) := (blk_cell BK242.out 0).trans rfl
                  have hcz52_1 : w44.cell? ⟨gb242, 1, none⟩ = some (.slice none 0 0) := (blk_cell BK242.out 1).trans rfl
                  have hcz52_2 : w44.cell? ⟨gb242, 2, none⟩ = some (.bool false) := (blk_cell BK242.out 2).trans rfl
                  have hfz52_0 := blk_frozen BK242.out 0
                  have hfz52_1 := blk_frozen BK242.out 1
                  have hfz52_2 := blk_frozen BK242.out 2
                  have hcz53_0 : w44.cell? ⟨gb228, 0, none⟩ = some (.int .i64 t221) := (blk_cell BK228.out 0).trans rfl
                  have hcz53_1 : w44.cell? ⟨gb228, 1, none⟩ = some (.slice Ao36 t222.length co36) := (blk_cell BK228.out 1).trans rfl
                  have hcz53_2 : w44.cell? ⟨gb228, 2, none⟩ = some (.bool t225) := (blk_cell BK228.out 2).trans rfl
                  have hfz53_0 := blk_frozen BK228.out 0
                  have hfz53_1 := blk_frozen BK228.out 1
                  have hfz53_2 := blk_frozen BK228.out 2
                  try go_wp2_with (first | ((with_reducible refine gate_callee (f := 13) rfl ?_); refine goesL_ (some 84) rfl rfl Try.func13 (by kernel_rfl) rfl #[.agg #[.int .i64 t235, .slice Ao46 t236.length co46, .bool t239], .agg #[.int .i64 t221, .slice Ao36 t222.length co36, .bool t225]] rfl (by (try simp only [List.map_toArray, List.map_cons, List.map_nil]); first | done | rfl | (simp only [List.length_drop, List.length_take]; rfl)) ?_; (with_reducible refine (tape_Same.calls t235 _ _ t236 t239 t221 _ _ t222 t225 true _ ?side1 ?side2 ?side3 ?side4 A22.out).mono ?_); (case side1 => refine (Kd.N_reads' (e := 25) (base := w.heap.size) (ok := fun k_ => (((P1_ k_ ∨ P2_ k_) ∨ w.heap.size ≤ k_) ∧ (some k_ ≠ (.slice Ao30 t214.length co30 : Value).ownBlock ∧ (some k_ ≠ (.slice Ao36 t222.length co36 : Value).ownBlock ∧ (some k_ ≠ (v233 : Value).ownBlock ∧ (k_ ≠ gb208 ∧ (k_ ≠ gb220 ∧ (k_ ≠ gb228 ∧ k_ ≠ gb242)))))))) (n := t236.length) (c := co46) ?_).2.2; exact (by (with_reducible repeat (first | apply Kd.N_alloc | apply Kd.N_drewN | apply Kd.N_drew)); exact (Kd.N_mono (Kd.N_far (p := ⟨gb242, 2, none⟩) (Kd.N_far (p := ⟨gb242, 1, none⟩) (Kd.N_far (p := ⟨gb242, 0, none⟩) (Kd.N_mono HO238.out (fun k_ hk => (⟨hk, hk.2.2.2.2.2.2.2⟩ : _ ∧ k_ ≠ gb242))) (fun _ hk => hk.2) (.int .i64 t235)) (fun _ hk => hk.2) (.slice Ao46 t236.length co46)) (fun _ hk => hk.2) (.bool t239)) (fun _ h_ => h_.1)))); (case side2 => exact (Kd.N_reads' HO238.out).2.1); (case side3 => refine (Kd.N_reads' (e := 25) (base := w.heap.size) (ok := fun k_ => (((P1_ k_ ∨ P2_ k_) ∨ w.heap.size ≤ k_) ∧ (some k_ ≠ (.slice Ao30 t214.length co30 : Value).ownBlock ∧ (some k_ ≠ (v233 : Value).ownBlock ∧ (some k_ ≠ (.slice Ao46 t236.length co46 : Value).ownBlock ∧ (k_ ≠ gb208 ∧ (k_ ≠ gb220 ∧ (k_ ≠ gb228 ∧ k_ ≠ gb242)))))))) (n := t222.length) (c := co36) ?_).2.2; exact (by (with_reducible repeat (first | apply Kd.N_alloc | apply Kd.N_drewN | apply Kd.N_drew)); exact (Kd.N_mono (Kd.N_far (p := ⟨gb242, 2, none⟩) (Kd.N_far (p := ⟨gb242, 1, none⟩) (Kd.N_far (p := ⟨gb242, 0, none⟩) (Kd.N_mono HO224.out (fun k_ hk => (⟨hk, hk.2.2.2.2.2.2.2⟩ : _ ∧ k_ ≠ gb242))) (fun _ hk => hk.2) (.int .i64 t235)) (fun _ hk => hk.2) (.slice Ao46 t236.length co46)) (fun _ hk => hk.2) (.bool t239)) (fun _ h_ => h_.1)))); (case side4 => exact (Kd.N_reads' HO224.out).2.1); rintro e w54 ⟨rfl, hb⟩; refine ⟨_, rfl, ?_⟩; have n0_ := Aside0.mk (Kd.V_below (by (with_reducible repeat (first | apply Kd.V_alloc | apply Kd.V_drewN | apply Kd.V_drew)); exact (Kd.V_mono (Kd.V_far (p := ⟨gb242, 2, none⟩) (Kd.V_far (p := ⟨gb242, 1, none⟩) (Kd.V_far (p := ⟨gb242, 0, none⟩) (Kd.V_mono HO_1.out (fun k_ hk => (⟨hk, hk.2.2.2.2.2.2.2.2⟩ : _ ∧ k_ ≠ gb242))) (fun _ hk => hk.2) (.int .i64 t235)) (fun _ hk => hk.2) (.slice Ao46 t236.length co46)) (fun _ hk => hk.2) (.bool t239)) (fun _ h_ => h_.1))) hb); have n1_ := Aside0.mk (Kd.V_below (by (with_reducible repeat (first | apply Kd.V_alloc | apply Kd.V_drewN | apply Kd.V_drew)); exact (Kd.V_mono (Kd.V_far (p := ⟨gb242, 2, none⟩) (Kd.V_far (p := ⟨gb242, 1, none⟩) (Kd.V_far (p := ⟨gb242, 0, none⟩) (Kd.V_mono HO_2.out (fun k_ hk => (⟨hk, hk.2.2.2.2.2.2.2.2⟩ : _ ∧ k_ ≠ gb242))) (fun _ hk => hk.2) (.int .i64 t235)) (fun _ hk => hk.2) (.slice Ao46 t236.length co46)) (fun _ hk => hk.2) (.bool t239)) (fun _ h_ => h_.1))) hb); have n2_ := Aside0.mk (Kd.N_below (by (with_reducible repeat (first | apply Kd.N_alloc | apply Kd.N_drewN | apply Kd.N_drew)); exact (Kd.N_mono (Kd.N_far (p := ⟨gb242, 2, none⟩) (Kd.N_far (p := ⟨gb242, 1, none⟩) (Kd.N_far (p := ⟨gb242, 0, none⟩) (Kd.N_mono HO216.out (fun k_ hk => (⟨hk, hk.2.2.2.2.2.2.2⟩ : _ ∧ k_ ≠ gb242))) (fun _ hk => hk.2) (.int .i64 t235)) (fun _ hk => hk.2) (.slice Ao46 t236.length co46)) (fun _ hk => hk.2) (.bool t239)) (fun _ h_ => h_.1))) hb); have n3_ := Aside0.mk (Kd.N_below (by (with_reducible repeat (first | apply Kd.N_alloc | apply Kd.N_drewN | apply Kd.N_drew)); exact (Kd.N_mono (Kd.N_far (p := ⟨gb242, 2, none⟩) (Kd.N_far (p := ⟨gb242, 1, none⟩) (Kd.N_far (p := ⟨gb242, 0, none⟩) (Kd.N_mono HO224.out (fun k_ hk => (⟨hk, hk.2.2.2.2.2.2.2⟩ : _ ∧ k_ ≠ gb242))) (fun _ hk => hk.2) (.int .i64 t235)) (fun _ hk => hk.2) (.slice Ao46 t236.length co46)) (fun _ hk => hk.2) (.bool t239)) (fun _ h_ => h_.1))) hb); have n4_ := Aside0.mk (Kd.N_below (by (with_reducible repeat (first | apply Kd.N_alloc | apply Kd.N_drewN | apply Kd.N_drew)); exact (Kd.N_mono (Kd.N_far (p := ⟨gb242, 2, none⟩) (Kd.N_far (p := ⟨gb242, 1, none⟩) (Kd.N_far (p := ⟨gb242, 0, none⟩) (Kd.N_mono HO234.out (fun k_ hk => (⟨hk, hk.2.2.2.2.2.2.2⟩ : _ ∧ k_ ≠ gb242))) (fun _ hk => hk.2) (.int .i64 t235)) (fun _ hk => hk.2) (.slice Ao46 t236.length co46)) (fun _ hk => hk.2) (.bool t239)) (fun _ h_ => h_.1))) hb); have n5_ := Aside0.mk (Kd.N_below (by (with_reducible repeat (first | apply Kd.N_alloc | apply Kd.N_drewN | apply Kd.N_drew)); exact (Kd.N_mono (Kd.N_far (p := ⟨gb242, 2, none⟩) (Kd.N_far (p := ⟨gb242, 1, none⟩) (Kd.N_far (p := ⟨gb242, 0, none⟩) (Kd.N_mono HO238.out (fun k_ hk => (⟨hk, hk.2.2.2.2.2.2.2⟩ : _ ∧ k_ ≠ gb242))) (fun _ hk => hk.2) (.int .i64 t235)) (fun _ hk => hk.2) (.slice Ao46 t236.length co46)) (fun _ hk => hk.2) (.bool t239)) (fun _ h_ => h_.1))) hb); have n6_ := Aside0.mk (blk_below (g := gb208) (o := .cells #[.int .i64 a0_0, .slice A0_1 l0_1.length c0_1, .bool a0_2] 24 (0, 0)) (by (with_reducible repeat (first | refine blk_drewN ?_ _ | refine blk_drew ?_ | refine blk_alloc ?_ _)); refine blk_far ?_ NB208_242.out _; (with_reducible repeat (first | refine blk_drewN ?_ _ | refine blk_drew ?_ | refine blk_alloc ?_ _)); refine blk_far ?_ NB208_242.out _; (with_reducible repeat (first | refine blk_drewN ?_ _ | refine blk_drew ?_ | refine blk_alloc ?_ _)); refine blk_far ?_ NB208_242.out _; (with_reducible repeat (first | refine blk_drewN ?_ _ | refine blk_drew ?_ | refine blk_alloc ?_ _)); exact BK208.out) hb); have n7_ := Aside0.mk (blk_below (g := gb220) (o := .cells #[.int .i64 t213, .slice Ao30 t214.length co30, .bool t217] 24 (0, 0)) (by (with_reducible repeat (first | refine blk_drewN ?_ _ | refine blk_drew ?_ | refine blk_alloc ?_ _)); refine blk_far ?_ NB220_242.out _; (with_reducible repeat (first | refine blk_drewN ?_ _ | refine blk_drew ?_ | refine blk_alloc ?_ _)); refine blk_far ?_ NB220_242.out _; (with_reducible repeat (first | refine blk_drewN ?_ _ | refine blk_drew ?_ | refine blk_alloc ?_ _)); refine blk_far ?_ NB220_242.out _; (with_reducible repeat (first | refine blk_drewN ?_ _ | refine blk_drew ?_ | refine blk_alloc ?_ _)); exact BK220.out) hb); have n8_ := Aside0.mk (blk_below (g := gb228) (o := .cells #[.int .i64 t221, .slice Ao36 t222.length co36, .bool t225] 24 (0, 0)) (by (with_reducible repeat (first | refine blk_drewN ?_ _ | refine blk_drew ?_ | refine blk_alloc ?_ _)); refine blk_far ?_ NB228_242.out _; (with_reducible repeat (first | refine blk_drewN ?_ _ | refine blk_drew ?_ | refine blk_alloc ?_ _)); refine blk_far ?_ NB228_242.out _; (with_reducible repeat (first | refine blk_drewN ?_ _ | refine blk_drew ?_ | refine blk_alloc ?_ _)); refine blk_far ?_ NB228_242.out _; (with_reducible repeat (first | refine blk_drewN ?_ _ | refine blk_drew ?_ | refine blk_alloc ?_ _)); exact BK228.out) hb); have n9_ := Aside0.mk (blk_below (g := gb242) (o := .cells #[.int .i64 t235, .slice Ao46 t236.length co46, .bool t239] 24 (0, 0)) (by (with_reducible repeat (first | refine blk_drewN ?_ _ | refine blk_drew ?_ | refine blk_alloc ?_ _)); refine blk_put (cs := #[.int .i64 t235, .slice Ao46 t236.length co46, .bool false]) ?_ 2 _ rfl; (with_reducible repeat (first | refine blk_drewN ?_ _ | refine blk_drew ?_ | refine blk_alloc ?_ _)); refine blk_put (cs := #[.int .i64 t235, .slice none 0 0, .bool false]) ?_ 1 _ rfl; (with_reducible repeat (first | refine blk_drewN ?_ _ | refine blk_drew ?_ | refine blk_alloc ?_ _)); refine blk_put (cs := #[.int .i64 0, .slice none 0 0, .bool false]) ?_ 0 _ rfl; (with_reducible repeat (first | refine blk_drewN ?_ _ | refine blk_drew ?_ | refine blk_alloc ?_ _)); exact BK242.out) hb); have n10_ := Aside0.mk (below_step (by repeat (first | (with_reducible first | exact HB.out | apply below_alloc | apply pw_below_drewN | apply below_drew1 | refine below_set ?_ GE208.out | refine below_set ?_ GE220.out | refine below_set ?_ GE228.out | refine below_set ?_ GE242.out) | exact HB.out)) hb); clear HO_1; clear HO_2; clear HO216; clear HO224; clear HO234; clear HO238; clear BK208; clear BK220; clear BK228; clear BK242; clear HB; have HO_1 := n0_; have HO_2 := n1_; have HO216 := n2_; have HO224 := n3_; have HO234 := n4_; have HO238 := n5_; have BK208 := n6_; have BK220 := n7_; have BK228 := n8_; have BK242 := n9_; have HB := n10_; clear n0_ n1_ n2_ n3_ n4_ n5_ n6_ n7_ n8_ n9_ n10_; (try clear hb); (try clear hb2); (try clear hk); (try clear hi)))
                  go_ret
                  exact ⟨by first | rfl | (simp [errW_none, errW_some] <;> rfl) | (simp [*, errW_none, errW_some] <;> rfl), by repeat (first | (with_reducible first | exact HB.out | apply below_alloc | apply pw_below_drewN | apply below_drew1 | refine below_set ?_ GE208.out | refine below_set ?_ GE220.out | refine below_set ?_ GE228.out | refine below_set ?_ GE242.out) | exact HB.out)⟩
                · rw [if_neg c24] at H
                  exact absurd H (by simp)
              · replace c23 := Bool.eq_false_iff.mpr c23
                subst c23
                have H1 : (none) = some r := by rw [if_neg (show ¬ (false = true) by decide)] at H; exact H
                clear H
                have H := H1
                clear H1
                exact absurd H (by simp)
            · rw [if_neg c21] at H
              exact absurd H (by simp)
          · rw [if_neg c19] at H
            exact absurd H (by simp)
        · rw [if_neg c18] at H
          exact absurd H (by simp)

end Go.Proofs.Ytkhepijngopmbaa.M
