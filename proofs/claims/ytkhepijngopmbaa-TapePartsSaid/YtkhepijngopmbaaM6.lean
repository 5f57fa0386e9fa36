/- Part of a claim: what some functions of the program compute, each with its contract; no condition of its own. Written by a program of this workplace (gen.py, over the print of the kit) and by hand. -/
import Derived.Test.YtkhepijngopmbaaM0
import Derived.Test.YtkhepijngopmbaaM1
import Derived.Test.YtkhepijngopmbaaM4
import Derived.Test.YtkhepijngopmbaaM8
namespace Go.Proofs.Ytkhepijngopmbaa.M
open Go.RowKit Go.Proofs.YtkhepijngopmbaaW.PrintWords Go.Proofs.YtkhepijngopmbaaW.PrintLast Go.Proofs.YtkhepijngopmbaaW.PrintMore
attribute [local go_sem] max2_int min2_int max_two min_two max_three min_three max_four min_four   -- for this text's walks alone
set_option linter.unusedVariables false
set_option linter.unusedSimpArgs false

/-! ### tape_May: function 11 -/
def mayT (a : Int) (l : List (List Int)) : Bool := decide (0 ≤ a) && (decide (a ≤ 200) && (decide ((l.length : Int) ≤ a) && l.all recMay))
def tape_May.f (a0_0 : Int) (l0_1 : List (List Int)) (a0_2 : Bool) : Option Bool := some (mayT a0_0 l0_1)
theorem tape_May.pred : PredRow 20 (fun b => !recMay b) := by
  intro W A c l hr hc
  have HF := Aside0.mk (recMay_f l hr.2.1)
  have HR := Aside0.mk hr
  have HC := Aside0.mk hc
  clear hr hc
  show Calls Try.prog 20 #[.slice A l.length c] W (fun e w' => e = .returned (.bool (!recMay l)) ∧ Drawn0 W w')
  generalize recMay l = b at HF ⊢
  go_enter Try.func20, Try.ntmps20
  go_wp2_with (go_at_call 21; refine (record_May.calls A c l b _ (Kd.C_below HR.out (by repeat (first | exact Below.refl _ _ | apply pw_below_drewN))) HC.out HF.out).mono ?_; rintro e w' ⟨rfl, ⟨m1, rfl⟩⟩)
  go_ret
  exact ⟨by first | rfl | (simp; done), by repeat (first | exact Drawn0.refl _ | apply Drawn0.step)⟩
theorem any_may (l : List (List Int)) : (l.any fun b => !recMay b) = !(l.all recMay) := by
  induction l with
  | nil => rfl
  | cons a l ih => simp only [List.any_cons, List.all_cons, Bool.not_and, ih]
set_option maxHeartbeats 8000000 in
set_option maxRecDepth 100000 in
theorem tape_May.calls (a0_0 : Int) (A0_1 : Option Addr) (c0_1 : Nat) (l0_1 : List (List Int)) (a0_2 : Bool) (r : Bool) (w : World) (hr0_1 : Kd.C (Kd.slice 5 (Kd.int .u8)) w A0_1 l0_1.length l0_1) (hc0_1 : l0_1.length ≤ c0_1) (h : tape_May.f a0_0 l0_1 a0_2 = some r) :
    Calls Try.prog 11 #[.agg #[.int .i64 a0_0, .slice A0_1 l0_1.length c0_1, .bool a0_2]] w fun e w' => e = .returned (.bool r) ∧ Below w.heap.size w w' := by
  obtain rfl := Option.some.inj h
  clear h
  have HB := Aside0.mk (below_alloc (Below.refl w.heap.size w) (.cells #[.int .i64 a0_0, .slice A0_1 l0_1.length c0_1, .bool a0_2] 24))
  have bk := blk_new w (.cells #[.int .i64 a0_0, .slice A0_1 l0_1.length c0_1, .bool a0_2] 24)
  have k0 := blk_cell bk 0
  have k1 := blk_cell bk 1
  have k2 := blk_cell bk 2
  have f0 := blk_frozen bk 0
  have f1 := blk_frozen bk 1
  have f2 := blk_frozen bk 2
  clear bk
  by_cases c1 : a0_0 ≥ 0
  · by_cases c2 : a0_0 ≤ 200
    · by_cases c3 : (l0_1.length : Int) ≤ a0_0
      · have HCALL := Aside0.mk (contains_rows 20 _ (enters_of Try.func20 (by kernel_rfl) rfl) tape_May.pred A0_1 c0_1 l0_1 _ (Kd.C_alloc hr0_1 (.cells #[.int .i64 a0_0, .slice A0_1 l0_1.length c0_1, .bool a0_2] 24)) hc0_1)
        rw [any_may] at HCALL
        have d1 : decide (a0_0 ≥ 0) = true := decide_eq_true c1
        have d2 : decide (a0_0 ≤ 200) = true := decide_eq_true c2
        have d3 : decide ((l0_1.length : Int) ≤ a0_0) = true := decide_eq_true c3
        have e1 : mayT a0_0 l0_1 = l0_1.all recMay := by unfold mayT; rw [show decide (0 ≤ a0_0) = true from d1, d2, d3]; rfl
        rw [e1]
        clear c1 c2 c3 e1 hr0_1 hc0_1
        generalize l0_1.all recMay = b at HCALL ⊢
        go_enter Try.func11, Try.ntmps11
        go_wp2_with (go_at_call 22; refine (HCALL.out).mono ?_; rintro e w' ⟨rfl, ⟨m1, rfl⟩⟩)
        go_ret
        exact ⟨by first | rfl | (simp; done), by repeat (first | exact HB.out | apply pw_below_drewN)⟩
      · have d1 : decide (a0_0 ≥ 0) = true := decide_eq_true c1
        have d2 : decide (a0_0 ≤ 200) = true := decide_eq_true c2
        have d3 : decide ((l0_1.length : Int) ≤ a0_0) = false := decide_eq_false c3
        have e1 : mayT a0_0 l0_1 = false := by unfold mayT; rw [show decide (0 ≤ a0_0) = true from d1, d2, d3]; rfl
        rw [e1]
        clear c1 c2 c3 e1 hr0_1 hc0_1
        go_enter Try.func11, Try.ntmps11
        go_wp2
        go_ret
        exact ⟨by first | rfl | (simp; done), by repeat (first | exact HB.out | apply pw_below_drewN)⟩
    · have d1 : decide (a0_0 ≥ 0) = true := decide_eq_true c1
      have d2 : decide (a0_0 ≤ 200) = false := decide_eq_false c2
      have e1 : mayT a0_0 l0_1 = false := by unfold mayT; rw [show decide (0 ≤ a0_0) = true from d1, d2]; rfl
      rw [e1]
      clear c1 c2 e1 hr0_1 hc0_1
      go_enter Try.func11, Try.ntmps11
      go_wp2
      go_ret
      exact ⟨by first | rfl | (simp; done), by repeat (first | exact HB.out | apply pw_below_drewN)⟩
  · have d1 : decide (a0_0 ≥ 0) = false := decide_eq_false c1
    have e1 : mayT a0_0 l0_1 = false := by unfold mayT; rw [show decide (0 ≤ a0_0) = false from d1]; rfl
    rw [e1]
    clear c1 e1 hr0_1 hc0_1
    go_enter Try.func11, Try.ntmps11
    go_wp2
    go_ret
    exact ⟨by first | rfl | (simp; done), by repeat (first | exact HB.out | apply pw_below_drewN)⟩

/-! ### slices_Clone_byte_byte_24: function 24 -/
def slices_Clone_byte_byte_24.f (l0 : List Int) : Option (List Int) := if l0.length ≤ 1000000 then some l0 else none
theorem slices_Clone_byte_byte_24.calls (A0 : Option Addr) (c0 : Nat) (l0 : List Int) (r : List Int) (w : World) (hr0 : Kd.C (Kd.int .u8) w A0 l0.length l0) (hc0 : l0.length ≤ c0) (h : slices_Clone_byte_byte_24.f l0 = some r) :
    Calls Try.prog 24 #[.slice A0 l0.length c0] w fun e w' => ∃ v0_ : Value, e = .returned v0_ ∧ (Kd.int .u8).R 5 w' w.heap.size (fun _ => True) v0_ r ∧ Below w.heap.size w w' := by
  unfold slices_Clone_byte_byte_24.f at h
  by_cases hl : l0.length ≤ 1000000
  · rw [if_pos hl] at h
    obtain rfl := Option.some.inj h
    exact clone_any A0 c0 l0 w hr0 hl
  · rw [if_neg hl] at h; cases h

-- NOT PRINTED: function 31 (slices_Clone_byte_byte_31)

end Go.Proofs.Ytkhepijngopmbaa.M
