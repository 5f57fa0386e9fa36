/- Part of a claim: what some functions of the program compute, each with its contract; no condition of its own. Written by a program of this workplace (gen.py, over the print of the kit) and by hand. -/
import Derived.Test.YtpbfeegfkiegeaaM0
import Derived.Test.YtpbfeegfkiegeaaM1
import Derived.Test.YtpbfeegfkiegeaaM3
import Derived.Test.YtpbfeegfkiegeaaM4
namespace Go.Proofs.Ytpbfeegfkiegeaa.M
open Go.RowKit Go.Proofs.YtpbfeegfkiegeaaW.PrintWords Go.Proofs.YtpbfeegfkiegeaaW.PrintLast Go.Proofs.YtpbfeegfkiegeaaW.PrintMore
attribute [local go_sem] max2_int min2_int max_two min_two max_three min_three max_four min_four   -- for this text's walks alone
set_option linter.unusedVariables false
set_option linter.unusedSimpArgs false

def mayT (a : Int) (l : List (List Int)) : Bool := decide (0 ≤ a) && (decide (a ≤ 200) && (decide ((l.length : Int) ≤ a) && l.all recMay))
def tape_May.f (a0_0 : Int) (l0_1 : List (List Int)) (a0_2 : Bool) : Option Bool := some (mayT a0_0 l0_1)
theorem tape_May.pred : PredRow 65 (fun b => !recMay b) := by
  intro W A c l hr hc
  have HF := Aside0.mk (recMay_f l hr.2.1)
  have HR := Aside0.mk hr
  have HC := Aside0.mk hc
  clear hr hc
  show Calls Try.prog 65 #[.slice A l.length c] W (fun e w' => e = .returned (.bool (!recMay l)) ∧ Drawn0 W w')
  generalize recMay l = b at HF ⊢
  go_enter Try.func65, Try.ntmps65
  go_wp2_with (go_at_call 39; refine (record_May.calls A c l b _ (Kd.C_below HR.out (by repeat (first | exact Below.refl _ _ | apply pw_below_drewN))) HC.out HF.out).mono ?_; rintro e w' ⟨rfl, ⟨m1, rfl⟩⟩)
  go_ret
  exact ⟨by first | rfl | (simp; done), by repeat (first | exact Drawn0.refl _ | apply Drawn0.step)⟩
theorem any_may (l : List (List Int)) : (l.any fun b => !recMay b) = !(l.all recMay) := by
  induction l with
  | nil => rfl
  | cons a l ih => simp only [List.any_cons, List.all_cons, Bool.not_and, ih]
set_option maxHeartbeats 8000000 in
set_option maxRecDepth 100000 in
theorem tape_May.calls (a0_0 : Int) (A0_1 : Option Addr) (c0_1 : Nat) (l0_1 : List (List Int)) (a0_2 : Bool) (r : Bool) (w : World) (hr0_1 : Kd.C (Kd.slice 5 (Kd.int .u8)) w A0_1 l0_1.length l0_1) (hc0_1 : l0_1.length ≤ c0_1) (h : tape_May.f a0_0 l0_1 a0_2 = some r) :
    Calls Try.prog 52 #[.agg #[.int .i64 a0_0, .slice A0_1 l0_1.length c0_1, .bool a0_2]] w fun e w' => e = .returned (.bool r) ∧ Below w.heap.size w w' := by
  obtain rfl := Option.some.inj h
  clear h
  have HB := Aside0.mk (below_alloc (Below.refl w.heap.size w) (.cells #[.int .i64 a0_0, .slice A0_1 l0_1.length c0_1, .bool a0_2] 41))
  have bk := blk_new w (.cells #[.int .i64 a0_0, .slice A0_1 l0_1.length c0_1, .bool a0_2] 41)
  have k0 := blk_cell bk 0
  have k1 := blk_cell bk 1
  have k2 := blk_cell bk 2
  have f0 := blk_frozen bk 0
  have f1 := blk_frozen bk 1
  have f2 := blk_frozen bk 2
  clear bk
  by_cases c1 : a0_0 ≥ 0
  · by_cases c2 : a0_0 ≤ 200
    · by_cases c3 : (l0_1.length : Int) ≤ a0_0
      · have HCALL := Aside0.mk (contains_rows 65 _ (enters_of Try.func65 (by kernel_rfl) rfl) tape_May.pred A0_1 c0_1 l0_1 _ (Kd.C_alloc hr0_1 (.cells #[.int .i64 a0_0, .slice A0_1 l0_1.length c0_1, .bool a0_2] 41)) hc0_1)
        rw [any_may] at HCALL
        have d1 : decide (a0_0 ≥ 0) = true := decide_eq_true c1
        have d2 : decide (a0_0 ≤ 200) = true := decide_eq_true c2
        have d3 : decide ((l0_1.length : Int) ≤ a0_0) = true := decide_eq_true c3
        have e1 : mayT a0_0 l0_1 = l0_1.all recMay := by unfold mayT; rw [show decide (0 ≤ a0_0) = true from d1, d2, d3]; rfl
        rw [e1]
        clear c1 c2 c3 e1 hr0_1 hc0_1
        generalize l0_1.all recMay = b at HCALL ⊢
        go_enter Try.func52, Try.ntmps52
        go_wp2_with (go_at_call 66; refine (HCALL.out).mono ?_; rintro e w' ⟨rfl, ⟨m1, rfl⟩⟩)
        go_ret
        exact ⟨by first | rfl | (simp; done), by repeat (first | exact HB.out | apply pw_below_drewN)⟩
      · have d1 : decide (a0_0 ≥ 0) = true := decide_eq_true c1
        have d2 : decide (a0_0 ≤ 200) = true := decide_eq_true c2
        have d3 : decide ((l0_1.length : Int) ≤ a0_0) = false := decide_eq_false c3
        have e1 : mayT a0_0 l0_1 = false := by unfold mayT; rw [show decide (0 ≤ a0_0) = true from d1, d2, d3]; rfl
        rw [e1]
        clear c1 c2 c3 e1 hr0_1 hc0_1
        go_enter Try.func52, Try.ntmps52
        go_wp2
        go_ret
        exact ⟨by first | rfl | (simp; done), by repeat (first | exact HB.out | apply pw_below_drewN)⟩
    · have d1 : decide (a0_0 ≥ 0) = true := decide_eq_true c1
      have d2 : decide (a0_0 ≤ 200) = false := decide_eq_false c2
      have e1 : mayT a0_0 l0_1 = false := by unfold mayT; rw [show decide (0 ≤ a0_0) = true from d1, d2]; rfl
      rw [e1]
      clear c1 c2 e1 hr0_1 hc0_1
      go_enter Try.func52, Try.ntmps52
      go_wp2
      go_ret
      exact ⟨by first | rfl | (simp; done), by repeat (first | exact HB.out | apply pw_below_drewN)⟩
  · have d1 : decide (a0_0 ≥ 0) = false := decide_eq_false c1
    have e1 : mayT a0_0 l0_1 = false := by unfold mayT; rw [show decide (0 ≤ a0_0) = false from d1]; rfl
    rw [e1]
    clear c1 e1 hr0_1 hc0_1
    go_enter Try.func52, Try.ntmps52
    go_wp2
    go_ret
    exact ⟨by first | rfl | (simp; done), by repeat (first | exact HB.out | apply pw_below_drewN)⟩

def mayR (x : S41) : Bool := mayT x.f0 x.f1
def mostD (l : List S41) (i : Int) : Int := if i = -1 then 0 else ((rd_T41 l i).f1.length : Int)
def mayD (l : List S41) (i p : Int) : Bool := decide ((l.length : Int) ≤ 12) && (l.all mayR && (decide (-1 ≤ i) && (decide (i < (l.length : Int)) && (decide (0 ≤ p) && decide (p ≤ mostD l i)))))
def drive_May.f (l0_0 : List S41) (a0_1 : Int) (a0_2 : Int) : Option Bool := some (mayD l0_0 a0_1 a0_2)
theorem drive_May.pred : PredTape 51 (fun x => !mayR x) := by
  intro W A c x hr hc
  have HF := Aside0.mk (show tape_May.f x.f0 x.f1 x.f2 = some (mayR x) from rfl)
  have HB := Aside0.mk (below_alloc (Below.refl W.heap.size W) (.cells #[.int .i64 x.f0, .slice A x.f1.length c, .bool x.f2] 41))
  have HR := Aside0.mk (Kd.C_alloc hr (.cells #[.int .i64 x.f0, .slice A x.f1.length c, .bool x.f2] 41))
  have HC := Aside0.mk hc
  have bk := blk_new W (.cells #[.int .i64 x.f0, .slice A x.f1.length c, .bool x.f2] 41)
  have k0 := blk_cell bk 0
  have k1 := blk_cell bk 1
  have k2 := blk_cell bk 2
  clear hr hc bk
  show Calls Try.prog 51 #[.agg #[.int .i64 x.f0, .slice A x.f1.length c, .bool x.f2]] W (fun e w' => e = .returned (.bool (!mayR x)) ∧ Below W.heap.size W w')
  generalize mayR x = b at HF ⊢
  go_enter Try.func51, Try.ntmps51
  go_wp2_with (go_at_call 52; refine (tape_May.calls _ A c x.f1 _ b _ HR.out HC.out HF.out).mono ?_; rintro e w2 ⟨rfl, hb⟩; have HB2 := Aside0.mk (below_step HB.out hb); clear hb)
  go_ret
  exact ⟨by first | rfl | (simp; done), by repeat (first | exact HB2.out | apply pw_below_drewN)⟩
theorem any_mayR (l : List S41) : (l.any fun x => !mayR x) = !(l.all mayR) := by
  induction l with
  | nil => rfl
  | cons a l ih => simp only [List.any_cons, List.all_cons, Bool.not_and, ih]
set_option maxHeartbeats 8000000 in
set_option maxRecDepth 100000 in
theorem drive_May.calls (A0_0 : Option Addr) (c0_0 : Nat) (l0_0 : List S41) (a0_1 : Int) (a0_2 : Int) (r : Bool) (w : World) (hr0_0 : Kd.C k41 w A0_0 l0_0.length l0_0) (hc0_0 : l0_0.length ≤ c0_0) (h : drive_May.f l0_0 a0_1 a0_2 = some r) :
    Calls Try.prog 27 #[.agg #[.slice A0_0 l0_0.length c0_0, .int .i64 a0_1, .int .i64 a0_2]] w fun e w' => e = .returned (.bool r) ∧ Below w.heap.size w w' := by
  obtain rfl := Option.some.inj h
  clear h
  have HB := Aside0.mk (below_alloc (Below.refl w.heap.size w) (.cells #[.slice A0_0 l0_0.length c0_0, .int .i64 a0_1, .int .i64 a0_2] 24))
  have bk := blk_new w (.cells #[.slice A0_0 l0_0.length c0_0, .int .i64 a0_1, .int .i64 a0_2] 24)
  have k0 := blk_cell bk 0
  have k1 := blk_cell bk 1
  have k2 := blk_cell bk 2
  have f0 := blk_frozen bk 0
  have f1 := blk_frozen bk 1
  have f2 := blk_frozen bk 2
  have BK := Aside0.mk bk
  have HR := Aside0.mk hr0_0
  have HC0 := Aside0.mk hc0_0
  clear bk
  by_cases c1 : (l0_0.length : Int) ≤ 12
  · have d1 : decide ((l0_0.length : Int) > 12) = false := decide_eq_false (by omega)
    have d1' : decide ((l0_0.length : Int) ≤ 12) = true := decide_eq_true c1
    have HCALL := Aside0.mk (contains_tapes 51 _ (enters_of Try.func51 (by kernel_rfl) rfl) drive_May.pred A0_0 c0_0 l0_0 _ (Kd.C_alloc hr0_0 (.cells #[.slice A0_0 l0_0.length c0_0, .int .i64 a0_1, .int .i64 a0_2] 24)) hc0_0)
    rw [any_mayR] at HCALL
    cases hm : l0_0.all mayR with
    | false =>
      have e1 : mayD l0_0 a0_1 a0_2 = false := by unfold mayD; rw [d1', hm]; rfl
      rw [e1]
      rw [hm] at HCALL
      clear hm c1 hr0_0 hc0_0
      go_enter Try.func27, Try.ntmps27
      go_wp2_with (go_at_call 53; refine (HCALL.out).mono ?_; rintro e w2 ⟨rfl, hb⟩; have HB2 := Aside0.mk (below_step HB.out hb); clear hb)
      go_ret
      exact ⟨by first | rfl | (simp; done), by repeat (first | exact HB2.out | apply pw_below_drewN)⟩
    | true =>
      rw [hm] at HCALL
      have e2 : mayD l0_0 a0_1 a0_2 = (decide (-1 ≤ a0_1) && (decide (a0_1 < (l0_0.length : Int)) && (decide (0 ≤ a0_2) && decide (a0_2 ≤ mostD l0_0 a0_1)))) := by unfold mayD; rw [d1', hm]; rfl
      rw [e2]
      clear hm e2 hr0_0 hc0_0
      by_cases c2 : a0_1 < -1
      · have d2 : decide (a0_1 < -1) = true := decide_eq_true c2
        rw [show decide (-1 ≤ a0_1) = false from decide_eq_false (by omega), Bool.false_and]
        clear c1 c2
        go_enter Try.func27, Try.ntmps27
        go_wp2_with (go_at_call 53; refine (HCALL.out).mono ?_; rintro e w2 ⟨rfl, hb⟩; have HB2 := Aside0.mk (below_step HB.out hb); have b2 := blk_below BK.out hb; have j0 := blk_cell b2 0; have j1 := blk_cell b2 1; have j2 := blk_cell b2 2; clear hb b2)
        go_ret
        exact ⟨by first | rfl | (simp; done), by repeat (first | exact HB2.out | apply pw_below_drewN)⟩
      · have d2 : decide (a0_1 < -1) = false := decide_eq_false c2
        rw [show decide (-1 ≤ a0_1) = true from decide_eq_true (by omega), Bool.true_and]
        by_cases c3 : (l0_0.length : Int) ≤ a0_1
        · have d3 : decide (a0_1 ≥ (l0_0.length : Int)) = true := decide_eq_true c3
          rw [show decide (a0_1 < (l0_0.length : Int)) = false from decide_eq_false (by omega), Bool.false_and]
          clear c1 c2 c3
          go_enter Try.func27, Try.ntmps27
          go_wp2_with (go_at_call 53; refine (HCALL.out).mono ?_; rintro e w2 ⟨rfl, hb⟩; have HB2 := Aside0.mk (below_step HB.out hb); have b2 := blk_below BK.out hb; have j0 := blk_cell b2 0; have j1 := blk_cell b2 1; have j2 := blk_cell b2 2; clear hb b2)
          go_ret
          exact ⟨by first | rfl | (simp; done), by repeat (first | exact HB2.out | apply pw_below_drewN)⟩
        · have d3 : decide (a0_1 ≥ (l0_0.length : Int)) = false := decide_eq_false c3
          rw [show decide (a0_1 < (l0_0.length : Int)) = true from decide_eq_true (by omega), Bool.true_and]
          by_cases c4 : a0_1 = -1
          · subst c4
            have e3 : mostD l0_0 (-1) = 0 := rfl
            rw [e3]
            clear c1 c2 c3 e3
            by_cases c5 : 0 ≤ a0_2
            · have d5 : decide (a0_2 ≥ 0) = true := decide_eq_true c5
              rw [show decide (0 ≤ a0_2) = true from d5, Bool.true_and]
              clear c5
              go_enter Try.func27, Try.ntmps27
              go_wp2_with (go_at_call 53; refine (HCALL.out).mono ?_; rintro e w2 ⟨rfl, hb⟩; have HB2 := Aside0.mk (below_step HB.out hb); have b2 := blk_below BK.out hb; have j0 := blk_cell b2 0; have j1 := blk_cell b2 1; have j2 := blk_cell b2 2; clear hb b2)
              go_ret
              exact ⟨by first | rfl | (simp; done), by repeat (first | exact HB2.out | apply pw_below_drewN)⟩
            · have d5 : decide (a0_2 ≥ 0) = false := decide_eq_false c5
              rw [show decide (0 ≤ a0_2) = false from d5, Bool.false_and]
              clear c5
              go_enter Try.func27, Try.ntmps27
              go_wp2_with (go_at_call 53; refine (HCALL.out).mono ?_; rintro e w2 ⟨rfl, hb⟩; have HB2 := Aside0.mk (below_step HB.out hb); have b2 := blk_below BK.out hb; have j0 := blk_cell b2 0; have j1 := blk_cell b2 1; have j2 := blk_cell b2 2; clear hb b2)
              go_ret
              exact ⟨by first | rfl | (simp; done), by repeat (first | exact HB2.out | apply pw_below_drewN)⟩
          · have d4 : (a0_1 != -1) = true := bne_iff_ne.2 c4
            have d4' : (a0_1 == -1) = false := beq_eq_false_iff_ne.2 c4
            have e3 : mostD l0_0 a0_1 = ((rd_T41 l0_0 a0_1).f1.length : Int) := if_neg c4
            rw [e3]
            have p1 : 0 ≤ a0_1 := by omega
            have c3' : a0_1 < (l0_0.length : Int) := by omega
            obtain ⟨ad, A1, c1_, he1, hx0, hx1, hx2, hl1, hi1⟩ := at_T41 HR.out a0_1 p1 c3'
            cases he1
            have HX1 := Aside0.mk hx1
            replace p1 := eq_true p1
            replace c3' := eq_true c3'
            clear c1 c2 c3 c4 e3 hx0 hx1 hx2
            by_cases c5 : 0 ≤ a0_2
            · have d5 : decide (a0_2 ≥ 0) = true := decide_eq_true c5
              rw [show decide (0 ≤ a0_2) = true from d5, Bool.true_and]
              clear c5
              go_enter Try.func27, Try.ntmps27
              go_wp2_with (go_at_call 53; refine (HCALL.out).mono ?_; rintro e w2 ⟨rfl, hb⟩; have HB2 := Aside0.mk (below_step HB.out hb); have b2 := blk_below BK.out hb; have j0 := blk_cell b2 0; have j1 := blk_cell b2 1; have j2 := blk_cell b2 2; have hx1 := pw_cell_below HB2.out HX1.out; clear hb b2)
              go_ret
              exact ⟨by first | rfl | (simp; done), by repeat (first | exact HB2.out | apply pw_below_drewN)⟩
            · have d5 : decide (a0_2 ≥ 0) = false := decide_eq_false c5
              rw [show decide (0 ≤ a0_2) = false from d5, Bool.false_and]
              clear c5
              go_enter Try.func27, Try.ntmps27
              go_wp2_with (go_at_call 53; refine (HCALL.out).mono ?_; rintro e w2 ⟨rfl, hb⟩; have HB2 := Aside0.mk (below_step HB.out hb); have b2 := blk_below BK.out hb; have j0 := blk_cell b2 0; have j1 := blk_cell b2 1; have j2 := blk_cell b2 2; have hx1 := pw_cell_below HB2.out HX1.out; clear hb b2)
              go_ret
              exact ⟨by first | rfl | (simp; done), by repeat (first | exact HB2.out | apply pw_below_drewN)⟩
  · have d1 : decide ((l0_0.length : Int) > 12) = true := decide_eq_true (by omega)
    have e1 : mayD l0_0 a0_1 a0_2 = false := by unfold mayD; rw [show decide ((l0_0.length : Int) ≤ 12) = false from decide_eq_false c1]; rfl
    rw [e1]
    clear c1 e1 hr0_0 hc0_0
    go_enter Try.func27, Try.ntmps27
    go_wp2
    go_ret
    exact ⟨by first | rfl | (simp; done), by repeat (first | exact HB.out | apply pw_below_drewN)⟩

end Go.Proofs.Ytpbfeegfkiegeaa.M
