/- Part of a claim: what some functions of the program compute, each with its contract; no condition of its own. Written by a program of this workplace (gen.py, over the print of the kit) and by hand. -/
import Derived.Test.YtpbfeegfkiegeaaM0
import Derived.Test.YtpbfeegfkiegeaaM9
import Derived.Test.YtpbfeegfkiegeaaM20
namespace Go.Proofs.Ytpbfeegfkiegeaa.M
open Go.RowKit Go.Proofs.YtpbfeegfkiegeaaW.PrintWords Go.Proofs.YtpbfeegfkiegeaaW.PrintLast Go.Proofs.YtpbfeegfkiegeaaW.PrintMore
attribute [local go_sem] max2_int min2_int max_two min_two max_three min_three max_four min_four   -- for this text's walks alone
set_option linter.unusedVariables false
set_option linter.unusedSimpArgs false

mutual
def reelkeeperlaw13_Few.l0 : Nat → Int → List (S41) → Int → Int → Option (Bool)
  | 0, _, _, _, _ => none
  | k + 1, x3, x237000, x237001, x237002 => if x3 < (x237000.length : Int) then (reelkeeperlaw13_Few.j1 k x3 (decide (x3 ≤ 15)) x237000 x237001 x237002) else (reelkeeperlaw13_Few.j1 k x3 false x237000 x237001 x237002)
def reelkeeperlaw13_Few.j1 : Nat → Int → Bool → List (S41) → Int → Int → Option (Bool)
  | 0, _, _, _, _, _ => none
  | k + 1, x3, x13, x237000, x237001, x237002 => if x13 = true then (if 0 ≤ x3 then (if x3 < (x237000.length : Int) then ((reelkeeperlaw11_FewRecs.f k ((rd_T41 x237000 x3).f1)).bind fun t238 => (if t238 = true then (if (((rd_T41 x237000 x3).f1).length : Int) > 30 then (some false) else (reelkeeperlaw13_Few.l0 k (wrap64 (x3 + 1)) x237000 x237001 x237002)) else (some false))) else (none)) else (none)) else (some (decide ((x237000.length : Int) ≤ 15)))
end
def reelkeeperlaw13_Few.f (k : Nat) (l0_0 : List (S41)) (a0_1 : Int) (a0_2 : Int) : Option (Bool) := reelkeeperlaw13_Few.l0 k 0 l0_0 a0_1 a0_2
theorem reelkeeperlaw13_Few.mono_l : ∀ k, (∀ y0 y1 y2 y3, LeO (reelkeeperlaw13_Few.l0 k y0 y1 y2 y3) (reelkeeperlaw13_Few.l0 (k + 1) y0 y1 y2 y3)) ∧ (∀ y0 y1 y2 y3 y4, LeO (reelkeeperlaw13_Few.j1 k y0 y1 y2 y3 y4) (reelkeeperlaw13_Few.j1 (k + 1) y0 y1 y2 y3 y4))
  | 0 => ⟨fun _ _ _ _ r h => by simp [reelkeeperlaw13_Few.l0] at h, fun _ _ _ _ _ r h => by simp [reelkeeperlaw13_Few.j1] at h⟩
  | k + 1 => by
    obtain ⟨ih0, ih1⟩ := reelkeeperlaw13_Few.mono_l k
    refine ⟨?_, ?_⟩
    · intro y0 y1 y2 y3
      unfold reelkeeperlaw13_Few.l0
      repeat' first
      | (with_reducible exact ih0 _ _ _ _)
      | (with_reducible exact ih1 _ _ _ _ _)
      | (with_reducible exact reelkeeperlaw11_FewRecs.mono _ _)
      | (with_reducible exact LeO.refl _)
      | (with_reducible exact LeO.none _)
      | (with_reducible refine LeO.ite ?_ ?_)
      | (with_reducible refine LeO.bind ?_ (fun _ => ?_))
      | exact ih0 _ _ _ _
      | exact ih1 _ _ _ _ _
      | exact reelkeeperlaw11_FewRecs.mono _ _
      | exact LeO.none _
      | refine LeO.ite ?_ ?_
      | refine LeO.bind ?_ (fun _ => ?_)
    · intro y0 y1 y2 y3 y4
      unfold reelkeeperlaw13_Few.j1
      repeat' first
      | (with_reducible exact ih0 _ _ _ _)
      | (with_reducible exact ih1 _ _ _ _ _)
      | (with_reducible exact reelkeeperlaw11_FewRecs.mono _ _)
      | (with_reducible exact LeO.refl _)
      | (with_reducible exact LeO.none _)
      | (with_reducible refine LeO.ite ?_ ?_)
      | (with_reducible refine LeO.bind ?_ (fun _ => ?_))
      | exact ih0 _ _ _ _
      | exact ih1 _ _ _ _ _
      | exact reelkeeperlaw11_FewRecs.mono _ _
      | exact LeO.none _
      | refine LeO.ite ?_ ?_
      | refine LeO.bind ?_ (fun _ => ?_)
theorem reelkeeperlaw13_Few.mono : ∀ a0 a1 a2 k, LeO (reelkeeperlaw13_Few.f k a0 a1 a2) (reelkeeperlaw13_Few.f (k + 1) a0 a1 a2) := by
  intro a0 a1 a2 k
  obtain ⟨ih0, ih1⟩ := reelkeeperlaw13_Few.mono_l k
  unfold reelkeeperlaw13_Few.f
  repeat' first
      | (with_reducible exact ih0 _ _ _ _)
      | (with_reducible exact ih1 _ _ _ _ _)
      | (with_reducible exact reelkeeperlaw11_FewRecs.mono _ _)
      | (with_reducible exact LeO.refl _)
      | (with_reducible exact LeO.none _)
      | (with_reducible refine LeO.ite ?_ ?_)
      | (with_reducible refine LeO.bind ?_ (fun _ => ?_))
      | exact ih0 _ _ _ _
      | exact ih1 _ _ _ _ _
      | exact reelkeeperlaw11_FewRecs.mono _ _
      | exact LeO.none _
      | refine LeO.ite ?_ ?_
      | refine LeO.bind ?_ (fun _ => ?_)
set_option maxHeartbeats 8000000 in
set_option maxRecDepth 100000 in
theorem reelkeeperlaw13_Few.calls (k : Nat) (A0_0 : Option Addr) (c0_0 : Nat) (l0_0 : List (S41)) (a0_1 : Int) (a0_2 : Int) (r : Bool) (w : World) (hr0_0 : Kd.C k41 w A0_0 l0_0.length l0_0) (hc0_0 : l0_0.length ≤ c0_0) (h : reelkeeperlaw13_Few.f k l0_0 a0_1 a0_2 = some r) :
  Calls Try.prog 10 #[.agg #[.slice A0_0 l0_0.length c0_0, .int .i64 a0_1, .int .i64 a0_2]] w fun e w' => e = .returned (.bool r) ∧ Below w.heap.size w w' := by
 have hu24 := Try.underlying24; have HR0_0 := zA hr0_0; have HC0_0 := zA hc0_0; clear hr0_0 hc0_0; have HB := zA (Below.refl w.heap.size w); have H : (reelkeeperlaw13_Few.l0 k 0 l0_0 a0_1 a0_2) = some r := h; clear h; have H' := zA H; clear H
 go_enter Try.func10, Try.ntmps10
 go_wp2_with (first | ((with_reducible refine gate_dst (N := 1) rfl ?_); (try (refine gate_guard (by rfl) ?_; dsimp only)); refine box_event ?hg (N := 1) ?hd (cs := #[.slice A0_0 l0_0.length c0_0, .int .i64 a0_1, .int .i64 a0_2]) (t := 24) ?hr ?_; (case hd => rfl); (case hg => rfl); (case hr => first | (go_simp; done) | (go_simp; rfl)); intro gb236 hg w2 hbox hb; have BK236 := zA (hbox); have GE236 := zA (gW HB.out hg); replace HB := zA (below_step HB.out hb); clear hb hbox hg))
 go_loopg [3] k (fun kq v3 w' => ∃ (x3_1 : Int), v3 = .int .i64 x3_1 ∧ Aside0 (reelkeeperlaw13_Few.l0 kq x3_1 l0_0 a0_1 a0_2 = some r) ∧ Aside0 (kq ≤ k) ∧ Aside0 (w'.heap[gb236]? = some (.cells #[(.slice A0_0 l0_0.length c0_0), .int .i64 a0_1, .int .i64 a0_2] 24 (0, 0))) ∧ Aside0 (Below w.heap.size w w'))
 case atStart => exact ⟨(0), (by first | rfl | (simp; done) | (simp [*]; done)), H', ⟨Nat.le_refl _⟩, ⟨by exact BK236.out⟩, ⟨by repeat (first | (with_reducible first | exact HB.out | apply bL | apply bP | apply bD | refine bS ?_ GE236.out) | exact HB.out)⟩⟩
 case round =>
  clear H'
  try clear c1
  try clear p2
  obtain ⟨x3_1, rfl, HA, HK1, BK236, HB⟩ := hrel
  cases gk with
  | zero => exact absurd HA.out (by simp [reelkeeperlaw13_Few.l0])
  | succ k1 =>
   have H := HA.out; clear HA
   simp only [reelkeeperlaw13_Few.l0] at H
   have HC3 := zA H; clear H
   go_upto_region 2 with (fail)
   go_cut [13] (fun v13 wc => ∃ (kq : Nat) (x13_2 : Bool), v13 = .bool x13_2 ∧ Aside0 (reelkeeperlaw13_Few.j1 kq x3_1 x13_2 l0_0 a0_1 a0_2 = some r) ∧ Aside0 (kq ≤ k1) ∧ Aside0 (wc.heap[gb236]? = some (.cells #[(.slice A0_0 l0_0.length c0_0), .int .i64 a0_1, .int .i64 a0_2] 24 (0, 0))) ∧ Aside0 (Below w.heap.size w wc))
   case first =>
    have H := HC3.out; clear HC3
    by_cases c4 : x3_1 < (l0_0.length : Int)
    ·rw [if_pos c4] at H
     have c4b0 : decide (x3_1 < (l0_0.length : Int)) = true := decide_eq_true c4; clear c4
     (first | rw [c4b0] | (simp only [i64_w, i32_w]; rw [c4b0]) | skip)
     have H' := zA H; clear H; obtain ⟨hcz5_0, hcz5_1, hcz5_2, hfz5_0, hfz5_1, hfz5_2⟩ := b6 BK236.out
     go_wp2
     go_meet
     case rel => exact ⟨_, (decide (x3_1 ≤ 15)), (by first | rfl | (simp; done) | (simp [*]; done)), H', ⟨by have := HK1.out; first | omega | exact Nat.le_refl _⟩, ⟨by exact BK236.out⟩, ⟨by repeat (first | (with_reducible first | exact HB.out | apply bL | apply bP | apply bD | refine bS ?_ GE236.out) | exact HB.out)⟩⟩
    ·rw [if_neg c4] at H
     have c4b0 : decide (x3_1 < (l0_0.length : Int)) = false := decide_eq_false c4; clear c4
     (first | rw [c4b0] | (simp only [i64_w, i32_w]; rw [c4b0]) | skip)
     have H' := zA H; clear H; obtain ⟨hcz6_0, hcz6_1, hcz6_2, hfz6_0, hfz6_1, hfz6_2⟩ := b6 BK236.out
     go_wp2
     go_meet
     case rel => exact ⟨_, (false), (by first | rfl | (simp; done) | (simp [*]; done)), H', ⟨by have := HK1.out; first | omega | exact Nat.le_refl _⟩, ⟨by exact BK236.out⟩, ⟨by repeat (first | (with_reducible first | exact HB.out | apply bL | apply bP | apply bD | refine bS ?_ GE236.out) | exact HB.out)⟩⟩
   case rest =>
    clear HC3
    try clear c1
    try clear p2
    try clear c4
    try clear c4b0
    try clear hcz5_0
    try clear hcz5_1
    try clear hcz5_2
    try clear hcz6_0
    try clear hcz6_1
    try clear hcz6_2
    try clear hfz5_0
    try clear hfz5_1
    try clear hfz5_2
    try clear hfz6_0
    try clear hfz6_1
    try clear hfz6_2
    try clear p2
    obtain ⟨kq, x13_2, rfl, HA, HJ2, BK236, HB⟩ := hcut
    cases kq with
    | zero => exact absurd HA.out (by simp [reelkeeperlaw13_Few.j1])
    | succ kj2 =>
     have H := HA.out; clear HA
     simp only [reelkeeperlaw13_Few.j1] at H
     by_cases c7 : x13_2 = true
     ·subst c7
      have H1 : (if 0 ≤ x3_1 then (if x3_1 < (l0_0.length : Int) then ((reelkeeperlaw11_FewRecs.f kj2 ((rd_T41 l0_0 x3_1).f1)).bind fun t238 => (if t238 = true then (if (((rd_T41 l0_0 x3_1).f1).length : Int) > 30 then (some false) else (reelkeeperlaw13_Few.l0 kj2 (wrap64 (x3_1 + 1)) l0_0 a0_1 a0_2)) else (some false))) else (none)) else (none)) = some r := by rw [if_pos rfl] at H; exact H
      clear H; have H := H1; clear H1
      by_cases c8 : 0 ≤ x3_1
      ·rw [if_pos c8] at H
       have c8b0 : decide (0 ≤ x3_1) = true := decide_eq_true c8; clear c8
       by_cases c9 : x3_1 < (l0_0.length : Int)
       ·rw [if_pos c9] at H
        have c9b0 : decide (x3_1 < (l0_0.length : Int)) = true := decide_eq_true c9; clear c9; replace H := Option.bind_eq_some_iff.mp H; obtain ⟨t238, A100, H⟩ := H; replace H : (if t238 = true then (if (((rd_T41 l0_0 x3_1).f1).length : Int) > 30 then (some false) else (reelkeeperlaw13_Few.l0 kj2 (wrap64 (x3_1 + 1)) l0_0 a0_1 a0_2)) else (some false)) = some r := H; have A10 := zA A100; clear A100
        by_cases c11 : t238 = true
        ·subst c11
         have H1 : (if (((rd_T41 l0_0 x3_1).f1).length : Int) > 30 then (some false) else (reelkeeperlaw13_Few.l0 kj2 (wrap64 (x3_1 + 1)) l0_0 a0_1 a0_2)) = some r := by rw [if_pos rfl] at H; exact H
         clear H; have H := H1; clear H1
         by_cases c12 : (((rd_T41 l0_0 x3_1).f1).length : Int) > 30
         ·rw [if_pos c12] at H
          have c12b0 : decide (30 < (((rd_T41 l0_0 x3_1).f1).length : Int)) = true := decide_eq_true c12; have c12b1 : decide (30 < ((rd_T41 l0_0 x3_1).f1).length) = true := decide_eq_true (by omega); clear c12; obtain rfl := Option.some.inj H; obtain ⟨hcz13_0, hcz13_1, hcz13_2, hfz13_0, hfz13_1, hfz13_2⟩ := b6 BK236.out; have p237 : 0 ≤ (x3_1 : Int) := of_decide_eq_true (by assumption); have q237 : x3_1 < (l0_0.length : Int) := of_decide_eq_true (by assumption); obtain ⟨ad237, A237_1, c237_1, e237, hx237_0, hx237_1, hx237_2, hl237_1, hi237_1⟩ := at_T41 HR0_0.out x3_1 p237 q237; cases e237; replace hx237_0 := (HB.out.cell (World.block_lt_of_cell? w _ hx237_0)).trans hx237_0; replace hx237_1 := (HB.out.cell (World.block_lt_of_cell? w _ hx237_1)).trans hx237_1; replace hx237_2 := (HB.out.cell (World.block_lt_of_cell? w _ hx237_2)).trans hx237_2; have HR237_1 := zA hi237_1; have HC237_1 := zA hl237_1; clear hi237_1 hl237_1; replace p237 := eq_true p237; replace q237 := eq_true q237
          go_wp2_with (first | ((with_reducible refine gate_callee (f := 32) rfl ?_); refine goesL_ (some 22) rfl rfl Try.func32 (by kernel_rfl) rfl #[.slice A237_1 ((rd_T41 l0_0 x3_1).f1).length c237_1] rfl (by (try simp only [List.map_toArray, List.map_cons, List.map_nil]); first | done | rfl | (simp only [List.length_drop, List.length_take]; rfl)) ?_; (with_reducible refine (reelkeeperlaw11_FewRecs.calls kj2 _ _ ((rd_T41 l0_0 x3_1).f1) true _ ?side1 ?side2 A10.out).mono ?_); (case side1 => repeat (first | exact (Kd.C_below HR237_1.out HB.out) | (with_reducible refine Kd.C_alloc ?_ _) | (with_reducible refine Kd.C_drewN ?_ _) | (with_reducible refine Kd.C_drew ?_))); (case side2 => exact HC237_1.out); rintro e w' ⟨rfl, ⟨nd, rfl⟩⟩; refine ⟨_, rfl, ?_⟩; have p239 : 0 ≤ (x3_1 : Int) := of_decide_eq_true (by assumption); have q239 : x3_1 < (l0_0.length : Int) := of_decide_eq_true (by assumption); obtain ⟨ad239, A239_1, c239_1, e239, hx239_0, hx239_1, hx239_2, hl239_1, hi239_1⟩ := at_T41 HR0_0.out x3_1 p239 q239; obtain rfl : ad237 = ad239 := (by injection e239); replace hx239_0 := (HB.out.cell (World.block_lt_of_cell? w _ hx239_0)).trans hx239_0; replace hx239_1 := (HB.out.cell (World.block_lt_of_cell? w _ hx239_1)).trans hx239_1; replace hx239_2 := (HB.out.cell (World.block_lt_of_cell? w _ hx239_2)).trans hx239_2; have HR239_1 := zA hi239_1; have HC239_1 := zA hl239_1; clear hi239_1 hl239_1; replace p239 := eq_true p239; replace q239 := eq_true q239; have ea_ := Option.some.inj (hx237_1.symm.trans hx239_1); injection ea_ with ea_ en_ ec_; subst ea_; subst ec_; clear en_))
          go_ret
          exact ⟨by first | rfl | (simp [errW_none, errW_some] <;> rfl) | (simp [*, errW_none, errW_some] <;> rfl), by repeat (first | (with_reducible first | exact HB.out | apply bL | apply bP | apply bD | refine bS ?_ GE236.out) | exact HB.out)⟩
         ·rw [if_neg c12] at H
          have c12b0 : decide (30 < (((rd_T41 l0_0 x3_1).f1).length : Int)) = false := decide_eq_false c12; have c12b1 : decide (30 < ((rd_T41 l0_0 x3_1).f1).length) = false := decide_eq_false (by omega); clear c12; have H' := zA H; clear H; obtain ⟨hcz14_0, hcz14_1, hcz14_2, hfz14_0, hfz14_1, hfz14_2⟩ := b6 BK236.out; have p237 : 0 ≤ (x3_1 : Int) := of_decide_eq_true (by assumption); have q237 : x3_1 < (l0_0.length : Int) := of_decide_eq_true (by assumption); obtain ⟨ad237, A237_1, c237_1, e237, hx237_0, hx237_1, hx237_2, hl237_1, hi237_1⟩ := at_T41 HR0_0.out x3_1 p237 q237; cases e237; replace hx237_0 := (HB.out.cell (World.block_lt_of_cell? w _ hx237_0)).trans hx237_0; replace hx237_1 := (HB.out.cell (World.block_lt_of_cell? w _ hx237_1)).trans hx237_1; replace hx237_2 := (HB.out.cell (World.block_lt_of_cell? w _ hx237_2)).trans hx237_2; have HR237_1 := zA hi237_1; have HC237_1 := zA hl237_1; clear hi237_1 hl237_1; replace p237 := eq_true p237; replace q237 := eq_true q237
          go_wp2_with (first | ((with_reducible refine gate_callee (f := 32) rfl ?_); refine goesL_ (some 22) rfl rfl Try.func32 (by kernel_rfl) rfl #[.slice A237_1 ((rd_T41 l0_0 x3_1).f1).length c237_1] rfl (by (try simp only [List.map_toArray, List.map_cons, List.map_nil]); first | done | rfl | (simp only [List.length_drop, List.length_take]; rfl)) ?_; (with_reducible refine (reelkeeperlaw11_FewRecs.calls kj2 _ _ ((rd_T41 l0_0 x3_1).f1) true _ ?side1 ?side2 A10.out).mono ?_); (case side1 => repeat (first | exact (Kd.C_below HR237_1.out HB.out) | (with_reducible refine Kd.C_alloc ?_ _) | (with_reducible refine Kd.C_drewN ?_ _) | (with_reducible refine Kd.C_drew ?_))); (case side2 => exact HC237_1.out); rintro e w' ⟨rfl, ⟨nd, rfl⟩⟩; refine ⟨_, rfl, ?_⟩; have p239 : 0 ≤ (x3_1 : Int) := of_decide_eq_true (by assumption); have q239 : x3_1 < (l0_0.length : Int) := of_decide_eq_true (by assumption); obtain ⟨ad239, A239_1, c239_1, e239, hx239_0, hx239_1, hx239_2, hl239_1, hi239_1⟩ := at_T41 HR0_0.out x3_1 p239 q239; obtain rfl : ad237 = ad239 := (by injection e239); replace hx239_0 := (HB.out.cell (World.block_lt_of_cell? w _ hx239_0)).trans hx239_0; replace hx239_1 := (HB.out.cell (World.block_lt_of_cell? w _ hx239_1)).trans hx239_1; replace hx239_2 := (HB.out.cell (World.block_lt_of_cell? w _ hx239_2)).trans hx239_2; have HR239_1 := zA hi239_1; have HC239_1 := zA hl239_1; clear hi239_1 hl239_1; replace p239 := eq_true p239; replace q239 := eq_true q239; have ea_ := Option.some.inj (hx237_1.symm.trans hx239_1); injection ea_ with ea_ en_ ec_; subst ea_; subst ec_; clear en_))
          go_roundg kj2
          case measure => have := HK1.out; have := HJ2.out; omega
          case rel => exact ⟨(wrap64 (x3_1 + 1)), (by first | rfl | (simp; done) | (simp [*]; done)), H', ⟨by have := HK1.out; have := HJ2.out; omega⟩, ⟨by exact BK236.out⟩, ⟨by repeat (first | (with_reducible first | exact HB.out | apply bL | apply bP | apply bD | refine bS ?_ GE236.out) | exact HB.out)⟩⟩
        ·replace c11 := Bool.eq_false_iff.mpr c11
         subst c11
         have H1 : (some false) = some r := by rw [if_neg (show ¬ (false = true) by decide)] at H; exact H
         clear H; have H := H1; clear H1; obtain rfl := Option.some.inj H; obtain ⟨hcz15_0, hcz15_1, hcz15_2, hfz15_0, hfz15_1, hfz15_2⟩ := b6 BK236.out; have p237 : 0 ≤ (x3_1 : Int) := of_decide_eq_true (by assumption); have q237 : x3_1 < (l0_0.length : Int) := of_decide_eq_true (by assumption); obtain ⟨ad237, A237_1, c237_1, e237, hx237_0, hx237_1, hx237_2, hl237_1, hi237_1⟩ := at_T41 HR0_0.out x3_1 p237 q237; cases e237; replace hx237_0 := (HB.out.cell (World.block_lt_of_cell? w _ hx237_0)).trans hx237_0; replace hx237_1 := (HB.out.cell (World.block_lt_of_cell? w _ hx237_1)).trans hx237_1; replace hx237_2 := (HB.out.cell (World.block_lt_of_cell? w _ hx237_2)).trans hx237_2; have HR237_1 := zA hi237_1; have HC237_1 := zA hl237_1; clear hi237_1 hl237_1; replace p237 := eq_true p237; replace q237 := eq_true q237
         go_wp2_with (first | ((with_reducible refine gate_callee (f := 32) rfl ?_); refine goesL_ (some 22) rfl rfl Try.func32 (by kernel_rfl) rfl #[.slice A237_1 ((rd_T41 l0_0 x3_1).f1).length c237_1] rfl (by (try simp only [List.map_toArray, List.map_cons, List.map_nil]); first | done | rfl | (simp only [List.length_drop, List.length_take]; rfl)) ?_; (with_reducible refine (reelkeeperlaw11_FewRecs.calls kj2 _ _ ((rd_T41 l0_0 x3_1).f1) false _ ?side1 ?side2 A10.out).mono ?_); (case side1 => repeat (first | exact (Kd.C_below HR237_1.out HB.out) | (with_reducible refine Kd.C_alloc ?_ _) | (with_reducible refine Kd.C_drewN ?_ _) | (with_reducible refine Kd.C_drew ?_))); (case side2 => exact HC237_1.out); rintro e w' ⟨rfl, ⟨nd, rfl⟩⟩; refine ⟨_, rfl, ?_⟩))
         go_ret
         exact ⟨by first | rfl | (simp [errW_none, errW_some] <;> rfl) | (simp [*, errW_none, errW_some] <;> rfl), by repeat (first | (with_reducible first | exact HB.out | apply bL | apply bP | apply bD | refine bS ?_ GE236.out) | exact HB.out)⟩
       ·rw [if_neg c9] at H
        exact absurd H (by simp)
      ·rw [if_neg c8] at H
       exact absurd H (by simp)
     ·replace c7 := Bool.eq_false_iff.mpr c7
      subst c7
      have H1 : (some (decide ((l0_0.length : Int) ≤ 15))) = some r := by rw [if_neg (show ¬ (false = true) by decide)] at H; exact H
      clear H; have H := H1; clear H1; obtain rfl := Option.some.inj H; obtain ⟨hcz16_0, hcz16_1, hcz16_2, hfz16_0, hfz16_1, hfz16_2⟩ := b6 BK236.out
      go_wp2
      go_ret
      exact ⟨by first | rfl | (simp [errW_none, errW_some] <;> rfl) | (simp [*, errW_none, errW_some] <;> rfl), by repeat (first | (with_reducible first | exact HB.out | apply bL | apply bP | apply bD | refine bS ?_ GE236.out) | exact HB.out)⟩

def reelkeeperref11_May.f (l0 : List Int) : Option (Bool) := if (l0.length : Int) ≥ 512 then (if (l0.length : Int) ≤ 10240 then (some (((l0.length : Int) % 512) == 0)) else (some false)) else (some false)
set_option maxHeartbeats 8000000 in
set_option maxRecDepth 100000 in
theorem reelkeeperref11_May.calls (A0 : Option Addr) (c0 : Nat) (l0 : List Int) (r : Bool) (w : World) (hr0 : Kd.C (Kd.int .u8) w A0 l0.length l0) (hc0 : l0.length ≤ c0) (h : reelkeeperref11_May.f l0 = some r) :
    Calls Try.prog 62 #[.slice A0 l0.length c0] w fun e w' => e = .returned (.bool r) ∧ Drawn0 w w' := by
  have HR0 := Aside0.mk hr0
  have HC0 := Aside0.mk hc0
  clear hr0 hc0
  have H : (if (l0.length : Int) ≥ 512 then (if (l0.length : Int) ≤ 10240 then (some (((l0.length : Int) % 512) == 0)) else (some false)) else (some false)) = some r := h
  clear h
  by_cases c2 : (l0.length : Int) ≥ 512
  · rw [if_pos c2] at H
    have c2b0 : decide (512 ≤ (l0.length : Int)) = true := decide_eq_true c2
    have c2b1 : decide (512 ≤ l0.length) = true := decide_eq_true (by omega)
    clear c2
    by_cases c3 : (l0.length : Int) ≤ 10240
    · rw [if_pos c3] at H
      have c3b0 : decide ((l0.length : Int) ≤ 10240) = true := decide_eq_true c3
      have c3b1 : decide (l0.length ≤ 10240) = true := decide_eq_true (by omega)
      clear c3
      obtain rfl := Option.some.inj H
      go_enter Try.func62, Try.ntmps62
      go_wp2
      go_ret
      exact ⟨by first | rfl | (simp; done) | (simp [*]; done), by repeat (first | exact Drawn0.refl _ | apply Drawn0.step)⟩
    · rw [if_neg c3] at H
      have c3b0 : decide ((l0.length : Int) ≤ 10240) = false := decide_eq_false c3
      have c3b1 : decide (l0.length ≤ 10240) = false := decide_eq_false (by omega)
      clear c3
      obtain rfl := Option.some.inj H
      go_enter Try.func62, Try.ntmps62
      go_wp2
      go_ret
      exact ⟨by first | rfl | (simp; done) | (simp [*]; done), by repeat (first | exact Drawn0.refl _ | apply Drawn0.step)⟩
  · rw [if_neg c2] at H
    have c2b0 : decide (512 ≤ (l0.length : Int)) = false := decide_eq_false c2
    have c2b1 : decide (512 ≤ l0.length) = false := decide_eq_false (by omega)
    clear c2
    obtain rfl := Option.some.inj H
    go_enter Try.func62, Try.ntmps62
    go_wp2
    go_ret
    exact ⟨by first | rfl | (simp; done) | (simp [*]; done), by repeat (first | exact Drawn0.refl _ | apply Drawn0.step)⟩

end Go.Proofs.Ytpbfeegfkiegeaa.M
