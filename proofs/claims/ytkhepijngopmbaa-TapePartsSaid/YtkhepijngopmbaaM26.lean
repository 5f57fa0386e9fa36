/- Part of a claim: what some functions of the program compute, each with its contract; no condition of its own. Written by a program of this workplace (gen.py, over the print of the kit) and by hand. -/
import Derived.Test.YtkhepijngopmbaaM0
import Derived.Test.YtkhepijngopmbaaM1
namespace Go.Proofs.Ytkhepijngopmbaa.M
open Go.RowKit Go.Proofs.YtkhepijngopmbaaW.PrintWords Go.Proofs.YtkhepijngopmbaaW.PrintLast Go.Proofs.YtkhepijngopmbaaW.PrintMore
attribute [local go_sem] max2_int min2_int max_two min_two max_three min_three max_four min_four   -- for this text's walks alone
set_option linter.unusedVariables false
set_option linter.unusedSimpArgs false

/-! ### reelkeeperref03_Same: function 16 -/
def strl (b : List Int) : List UInt8 := (strOfNums b).toList
theorem strl_eq {l0 l1 : List (List Int)} (he : l0.length = l1.length) (h : ∀ j, j < l0.length → strl (l0.getD j []) = strl (l1.getD j [])) : l0.map strl = l1.map strl := by
  apply List.ext_getElem (by simpa using he)
  intro j h1 h2
  have h1' : j < l0.length := by simpa using h1
  have h2' : j < l1.length := by simpa using h2
  have := h j h1'
  simpa [List.getD_eq_getElem?_getD, h1', h2'] using this
theorem strl_at {l0 l1 : List (List Int)} (h : l0.map strl = l1.map strl) (j : Nat) (hj : j < l0.length) : strl (l0.getD j []) = strl (l1.getD j []) := by
  have hl : l0.length = l1.length := by simpa using congrArg List.length h
  have h2 := congrArg (fun l => l[j]?) h
  simp only [List.getElem?_map] at h2
  rw [List.getElem?_eq_getElem hj, List.getElem?_eq_getElem (by omega)] at h2
  simp only [Option.map_some, Option.some.injEq] at h2
  simpa [List.getD_eq_getElem?_getD, hj, show j < l1.length by omega] using h2
def reelkeeperref03_Same.f (l0 : List (List Int)) (l1 : List (List Int)) : Option Bool := some (decide (l0.map strl = l1.map strl))
set_option maxHeartbeats 8000000 in
set_option maxRecDepth 100000 in
theorem reelkeeperref03_Same.calls (A0 : Option Addr) (c0 : Nat) (l0 : List (List Int)) (A1 : Option Addr) (c1 : Nat) (l1 : List (List Int)) (r : Bool) (w : World) (hr0 : Kd.C (Kd.slice 5 (Kd.int .u8)) w A0 l0.length l0) (hc0 : l0.length ≤ c0) (hr1 : Kd.C (Kd.slice 5 (Kd.int .u8)) w A1 l1.length l1) (hc1 : l1.length ≤ c1) (h : reelkeeperref03_Same.f l0 l1 = some r) :
    Calls Try.prog 16 #[.slice A0 l0.length c0, .slice A1 l1.length c1] w fun e w' => e = .returned (.bool r) ∧ Drawn0 w w' := by
  obtain rfl := Option.some.inj h
  have HR0 := Aside0.mk hr0
  have HC0 := Aside0.mk hc0
  have HR1 := Aside0.mk hr1
  have HC1 := Aside0.mk hc1
  have HM := Aside0.mk hr0.2.1
  clear hr0 hc0 hr1 hc1 h
  by_cases c3 : (l0.length : Int) = (l1.length : Int)
  · have c3b0 : ((l0.length : Int) == (l1.length : Int)) = true := beq_iff_eq.mpr c3
    have c3b1 : ((l0.length : Int) != (l1.length : Int)) = false := bne_eq_false_iff_eq.mpr c3
    have c3b2 : (l0.length == l1.length) = true := by first | simpa using c3 | (simp at c3 ⊢; omega)
    have HE := Aside0.mk (show l0.length = l1.length by omega)
    clear c3
    go_enter Try.func16, Try.ntmps16
    go_wp2
    repeat (go_quiet (fail); try go_wp2)
    go_loopg [5] l0.length (fun kq v5 w' => ∃ (x8 : Int), v5 = .int .i64 x8 ∧ Aside0 (0 ≤ x8 ∧ x8 ≤ l0.length ∧ l0.length - x8.toNat ≤ kq ∧ ∀ j, j < x8.toNat → strl (l0.getD j []) = strl (l1.getD j [])) ∧ Drawn0 w w')
    case atStart => exact ⟨0, rfl, ⟨by omega, by omega, by omega, fun j hj => by simp at hj⟩, by repeat (first | exact Drawn0.refl _ | apply Drawn0.step)⟩
    case round =>
      obtain ⟨x8, rfl, HI, ⟨m1, rfl⟩⟩ := hrel
      by_cases c2 : x8 < (l0.length : Int)
      · have c2b0 : decide (x8 < (l0.length : Int)) = true := decide_eq_true c2
        have c2' : x8 < (l1.length : Int) := by have := HE.out; omega
        have p1 : 0 ≤ x8 := HI.out.1
        obtain ⟨ad, A2, c2_, e1, hx1, hl1, hi1⟩ := at_row HR0.out x8 p1 c2
        cases e1
        obtain ⟨ad', A3, c3_, e2, hx2, hl2, hi2⟩ := at_row HR1.out x8 p1 c2'
        cases e2
        have p2 : x8 ≤ 9223372036854775806 := by have := HM.out; omega
        have HT := Aside0.mk c2
        replace c2 := eq_true c2
        replace c2' := eq_true c2'
        replace p1 := eq_true p1
        have hcv1 := fun (m : Nat) => Kd.C_string (P := Try.prog) (dst := 9) (A := A2) (c := c2_) Try.underlying25 Try.underlying5 Try.underlying9 (Kd.C_below hi1 (pw_below_drewN (Below.refl _ _) m))
        have hcv2 := fun (m : Nat) => Kd.C_string (P := Try.prog) (dst := 9) (A := A3) (c := c3_) Try.underlying25 Try.underlying5 Try.underlying9 (Kd.C_below hi2 (pw_below_drewN (Below.refl _ _) m))
        clear hl1 hi1 hl2 hi2
        by_cases hq : strl (rdRow l0 x8) = strl (rdRow l1 x8)
        · have c7b0 : ((strOfNums (rdRow l0 x8)).toList == (strOfNums (rdRow l1 x8)).toList) = true := beq_iff_eq.mpr hq
          have c7b1 : ((strOfNums (rdRow l0 x8)).toList != (strOfNums (rdRow l1 x8)).toList) = false := bne_eq_false_iff_eq.mpr hq
          have HQ := Aside0.mk hq
          clear hq
          go_wp2
          repeat (go_quiet (fail); try go_wp2)
          go_roundg (l0.length - (x8.toNat + 1))
          case measure => have := HT.out; have := HI.out.1; have := HI.out.2.2.1; omega
          case rel =>
            refine ⟨x8 + 1, wrap_step (by have := HI.out.1; omega) p2, ⟨by have := HI.out.1; omega, by have := HT.out; omega, by have := HI.out.1; omega, fun j hj => ?_⟩, by repeat (first | exact Drawn0.refl _ | apply Drawn0.step)⟩
            by_cases ej : j = x8.toNat
            · subst ej; exact HQ.out
            · exact HI.out.2.2.2 j (by have := HI.out.1; omega)
        · have c7b0 : ((strOfNums (rdRow l0 x8)).toList == (strOfNums (rdRow l1 x8)).toList) = false := beq_eq_false_iff_ne.mpr hq
          have c7b1 : ((strOfNums (rdRow l0 x8)).toList != (strOfNums (rdRow l1 x8)).toList) = true := bne_iff_ne.mpr hq
          have HQ := Aside0.mk hq
          clear hq
          go_wp2
          repeat (go_quiet (fail); try go_wp2)
          go_ret
          refine ⟨?_, by repeat (first | exact Drawn0.refl _ | apply Drawn0.step)⟩
          show Ending.returned (.bool false) = .returned (.bool (decide (l0.map strl = l1.map strl)))
          rw [decide_eq_false (fun e => HQ.out (strl_at e _ (by have := HT.out; have := HI.out.1; omega)))]
      · have c2b0 : decide (x8 < (l0.length : Int)) = false := decide_eq_false c2
        have HT := Aside0.mk c2
        clear c2
        go_wp2
        repeat (go_quiet (fail); try go_wp2)
        go_ret
        refine ⟨?_, by repeat (first | exact Drawn0.refl _ | apply Drawn0.step)⟩
        show Ending.returned (.bool true) = .returned (.bool (decide (l0.map strl = l1.map strl)))
        rw [decide_eq_true (strl_eq HE.out (fun j hj => HI.out.2.2.2 j (by have := HT.out; have := HI.out.2.1; omega)))]
  · have c3b0 : ((l0.length : Int) == (l1.length : Int)) = false := beq_eq_false_iff_ne.mpr c3
    have c3b1 : ((l0.length : Int) != (l1.length : Int)) = true := bne_iff_ne.mpr c3
    have c3b2 : (l0.length == l1.length) = false := by first | simpa using c3 | (simp at c3 ⊢; omega)
    have HE := Aside0.mk (show l0.length ≠ l1.length by omega)
    clear c3
    go_enter Try.func16, Try.ntmps16
    go_wp2
    repeat (go_quiet (fail); try go_wp2)
    go_ret
    refine ⟨?_, by repeat (first | exact Drawn0.refl _ | apply Drawn0.step)⟩
    show Ending.returned (.bool false) = .returned (.bool (decide (l0.map strl = l1.map strl)))
    rw [decide_eq_false (fun e => HE.out (by simpa using congrArg List.length e))]

end Go.Proofs.Ytkhepijngopmbaa.M
