/- Part of a claim: what some functions of the program compute, each with its contract; no condition of its own. Written by a program of this workplace (gen.py, over the print of the kit) and by hand. -/
import Derived.Test.YtkhepijngopmbaaM0
import Derived.Test.YtkhepijngopmbaaM1
import Derived.Test.YtkhepijngopmbaaM11
namespace Go.Proofs.Ytkhepijngopmbaa.M
open Go.RowKit Go.Proofs.YtkhepijngopmbaaW.PrintWords Go.Proofs.YtkhepijngopmbaaW.PrintLast Go.Proofs.YtkhepijngopmbaaW.PrintMore
attribute [local go_sem] max2_int min2_int max_two min_two max_three min_three max_four min_four   -- for this text's walks alone
set_option linter.unusedVariables false
set_option linter.unusedSimpArgs false

/-! ### block_Same: function 23 -/
/-- The printed slices.Equal, told: two lists are the same, or not. -/
theorem slices_Equal_byte_byte.ends (l0 l1 : List Int) (hm : l0.length ≤ 9223372036854775807) (he : l0.length = l1.length) (d : Nat) : ∀ (k : Nat) (i : Int), 0 ≤ i → i ≤ l0.length → (l0.length : Int) - i = d → d < k → (∀ j, j < i.toNat → l0.getD j 0 = l1.getD j 0) →
    slices_Equal_byte_byte.l0 k l0 l1 (l0.length : Int) i = some (decide (l0 = l1)) := by
  induction d with
  | zero =>
    intro k i h0 h1 hd hk hj
    obtain ⟨k, rfl⟩ : ∃ m, k = m + 1 := ⟨k - 1, by omega⟩
    simp only [slices_Equal_byte_byte.l0]
    rw [if_neg (by omega)]
    have : l0 = l1 := by
      apply List.ext_getElem he
      intro j h1 h2
      have := hj j (by omega)
      simpa [List.getD_eq_getElem?_getD, h1, h2] using this
    rw [decide_eq_true this]
  | succ d ih =>
    intro k i h0 h1 hd hk hj
    obtain ⟨k, rfl⟩ : ∃ m, k = m + 1 := ⟨k - 1, by omega⟩
    simp only [slices_Equal_byte_byte.l0]
    rw [if_pos (by omega), if_pos h0, if_pos (by omega), if_pos (by omega)]
    have hw : wrap64 (i + 1) = i + 1 := by unfold wrap64; omega
    by_cases hq : rd l0 i = rd l1 i
    · rw [if_pos hq, hw]
      refine ih k (i + 1) (by omega) (by omega) (by omega) (by omega) (fun j hj2 => ?_)
      by_cases e : j = i.toNat
      · subst e; exact hq
      · exact hj j (by omega)
    · rw [if_neg hq]
      have : l0 ≠ l1 := fun e => hq (by rw [e])
      rw [decide_eq_false this]
theorem slices_Equal_byte_byte.tells (l0 l1 : List Int) (hm : l0.length ≤ 9223372036854775807) : ∃ k, slices_Equal_byte_byte.f k l0 l1 = some (decide (l0 = l1)) := by
  refine ⟨l0.length + 1, ?_⟩
  unfold slices_Equal_byte_byte.f
  by_cases he : l0.length = l1.length
  · rw [if_pos (by omega)]
    exact slices_Equal_byte_byte.ends l0 l1 hm he l0.length _ 0 (by omega) (by omega) (by omega) (by omega) (fun j hj => by simp at hj)
  · rw [if_neg (by omega), decide_eq_false (fun e => he (by rw [e]))]
theorem slices_Equal_byte_byte.says (A0 : Option Addr) (c0 : Nat) (l0 : List Int) (A1 : Option Addr) (c1 : Nat) (l1 : List Int) (w : World) (hr0 : Kd.C (Kd.int .u8) w A0 l0.length l0) (hc0 : l0.length ≤ c0) (hr1 : Kd.C (Kd.int .u8) w A1 l1.length l1) (hc1 : l1.length ≤ c1) :
    Calls Try.prog 30 #[.slice A0 l0.length c0, .slice A1 l1.length c1] w fun e w' => e = .returned (.bool (decide (l0 = l1))) ∧ Drawn0 w w' := by
  obtain ⟨k, hk⟩ := slices_Equal_byte_byte.tells l0 l1 hr0.2.1
  exact slices_Equal_byte_byte.calls k A0 c0 l0 A1 c1 l1 _ w hr0 hc0 hr1 hc1 hk
theorem rows_eq {l0 l1 : List (List Int)} (he : l0.length = l1.length) (h : ∀ j, j < l0.length → l0.getD j [] = l1.getD j []) : l0 = l1 := by
  apply List.ext_getElem he
  intro j h1 h2
  have := h j h1
  simpa [List.getD_eq_getElem?_getD, h1, h2] using this
set_option maxHeartbeats 8000000 in
set_option maxRecDepth 100000 in
theorem eqf_rows (A0 : Option Addr) (c0 : Nat) (l0 : List (List Int)) (A1 : Option Addr) (c1 : Nat) (l1 : List (List Int)) (w : World) (hr0 : Kd.C (Kd.slice 5 (Kd.int .u8)) w A0 l0.length l0) (hc0 : l0.length ≤ c0) (hr1 : Kd.C (Kd.slice 5 (Kd.int .u8)) w A1 l1.length l1) (hc1 : l1.length ≤ c1) :
    Calls Try.prog 29 #[.slice A0 l0.length c0, .slice A1 l1.length c1, .func (.func 30) #[] #[]] w fun e w' => e = .returned (.bool (decide (l0 = l1))) ∧ Drawn0 w w' := by
  have HR0 := Aside0.mk hr0
  have HC0 := Aside0.mk hc0
  have HR1 := Aside0.mk hr1
  have HC1 := Aside0.mk hc1
  have HM := Aside0.mk hr0.2.1
  clear hr0 hc0 hr1 hc1
  by_cases c3 : (l0.length : Int) = (l1.length : Int)
  · have c3b0 : ((l0.length : Int) == (l1.length : Int)) = true := beq_iff_eq.mpr c3
    have c3b1 : ((l0.length : Int) != (l1.length : Int)) = false := bne_eq_false_iff_eq.mpr c3
    have c3b2 : (l0.length == l1.length) = true := by first | simpa using c3 | (simp at c3 ⊢; omega)
    have HE := Aside0.mk (show l0.length = l1.length by omega)
    clear c3
    go_enter Try.func29, Try.ntmps29
    go_wp2
    go_loopg [7, 8, 9, 17] l0.length (fun kq _ _ _ v8 w' => ∃ (x8 : Int), v8 = .int .i64 x8 ∧ Aside0 (0 ≤ x8 ∧ x8 ≤ l0.length ∧ l0.length - x8.toNat ≤ kq ∧ ∀ j, j < x8.toNat → l0.getD j [] = l1.getD j []) ∧ Drawn0 w w')
    case atStart => exact ⟨0, rfl, ⟨by omega, by omega, by omega, fun j hj => by simp at hj⟩, by repeat (first | exact Drawn0.refl _ | apply Drawn0.step)⟩
    case round =>
      obtain ⟨x8, rfl, HI, ⟨m1, rfl⟩⟩ := hrel
      by_cases c2 : x8 < (l0.length : Int)
      · have c2b0 : decide (x8 < (l0.length : Int)) = true := decide_eq_true c2
        have c2' : x8 < (l1.length : Int) := by have := HE.out; omega
        have p1 : 0 ≤ x8 := HI.out.1
        obtain ⟨ad, A2, c2_, e1, hx1, hl1, hi1⟩ := at_row HR0.out x8 p1 c2
        cases e1
        obtain ⟨ad', A3, c3_, e2, hx2, hl2, hi2⟩ := at_row HR1.out x8 p1 c2'
        cases e2
        have p2 : x8 ≤ 9223372036854775806 := by have := HM.out; omega
        have HT := Aside0.mk c2
        replace c2 := eq_true c2
        replace c2' := eq_true c2'
        replace p1 := eq_true p1
        have hcall := fun (m : Nat) => slices_Equal_byte_byte.says A2 c2_ (rdRow l0 x8) A3 c3_ (rdRow l1 x8) (w.drewN m) (Kd.C_below hi1 (pw_below_drewN (Below.refl _ _) m)) hl1 (Kd.C_below hi2 (pw_below_drewN (Below.refl _ _) m)) hl2
        clear hl1 hi1 hl2 hi2
        by_cases hq : rdRow l0 x8 = rdRow l1 x8
        · have HQ := Aside0.mk hq
          rw [decide_eq_true hq] at hcall
          clear hq
          have HCALL := Aside0.mk hcall
          clear hcall
          go_wp2_with (go_at_call 30; refine (HCALL.out _).mono ?_; rintro e w' ⟨rfl, ⟨m2, rfl⟩⟩)
          go_roundg (l0.length - (x8.toNat + 1))
          case measure => have := HT.out; have := HI.out.1; have := HI.out.2.2.1; omega
          case rel =>
            refine ⟨x8 + 1, wrap_step (by have := HI.out.1; omega) p2, ⟨by have := HI.out.1; omega, by have := HT.out; omega, by have := HI.out.1; omega, fun j hj => ?_⟩, by repeat (first | exact Drawn0.refl _ | apply Drawn0.step)⟩
            by_cases ej : j = x8.toNat
            · subst ej; exact HQ.out
            · exact HI.out.2.2.2 j (by have := HI.out.1; omega)
        · have HQ := Aside0.mk hq
          rw [decide_eq_false hq] at hcall
          clear hq
          have HCALL := Aside0.mk hcall
          clear hcall
          go_wp2_with (go_at_call 30; refine (HCALL.out _).mono ?_; rintro e w' ⟨rfl, ⟨m2, rfl⟩⟩)
          go_ret
          refine ⟨?_, by repeat (first | exact Drawn0.refl _ | apply Drawn0.step)⟩
          show Ending.returned (.bool false) = .returned (.bool (decide (l0 = l1)))
          rw [decide_eq_false (fun e => HQ.out (by rw [e]))]
      · have c2b0 : decide (x8 < (l0.length : Int)) = false := decide_eq_false c2
        have HT := Aside0.mk c2
        clear c2
        go_wp2
        go_ret
        refine ⟨?_, by repeat (first | exact Drawn0.refl _ | apply Drawn0.step)⟩
        show Ending.returned (.bool true) = .returned (.bool (decide (l0 = l1)))
        rw [decide_eq_true (rows_eq HE.out (fun j hj => HI.out.2.2.2 j (by have := HT.out; have := HI.out.2.1; omega)))]
  · have c3b0 : ((l0.length : Int) == (l1.length : Int)) = false := beq_eq_false_iff_ne.mpr c3
    have c3b1 : ((l0.length : Int) != (l1.length : Int)) = true := bne_iff_ne.mpr c3
    have c3b2 : (l0.length == l1.length) = false := by first | simpa using c3 | (simp at c3 ⊢; omega)
    have HE := Aside0.mk (show l0.length ≠ l1.length by omega)
    clear c3
    go_enter Try.func29, Try.ntmps29
    go_wp2
    go_ret
    refine ⟨?_, by repeat (first | exact Drawn0.refl _ | apply Drawn0.step)⟩
    show Ending.returned (.bool false) = .returned (.bool (decide (l0 = l1)))
    rw [decide_eq_false (fun e => HE.out (by rw [e]))]
def block_Same.f (l0 : List (List Int)) (l1 : List (List Int)) : Option Bool := some (decide (l0 = l1))
set_option maxHeartbeats 8000000 in
set_option maxRecDepth 100000 in
theorem block_Same.calls (A0 : Option Addr) (c0 : Nat) (l0 : List (List Int)) (A1 : Option Addr) (c1 : Nat) (l1 : List (List Int)) (r : Bool) (w : World) (hr0 : Kd.C (Kd.slice 5 (Kd.int .u8)) w A0 l0.length l0) (hc0 : l0.length ≤ c0) (hr1 : Kd.C (Kd.slice 5 (Kd.int .u8)) w A1 l1.length l1) (hc1 : l1.length ≤ c1) (h : block_Same.f l0 l1 = some r) :
    Calls Try.prog 23 #[.slice A0 l0.length c0, .slice A1 l1.length c1] w fun e w' => e = .returned (.bool r) ∧ Drawn0 w w' := by
  have HCALL := Aside0.mk (eqf_rows A0 c0 l0 A1 c1 l1 w hr0 hc0 hr1 hc1)
  obtain rfl := Option.some.inj h
  clear hr0 hc0 hr1 hc1 h
  generalize decide (l0 = l1) = b at HCALL ⊢
  go_enter Try.func23, Try.ntmps23
  go_wp2_with (go_at_call 29; refine (HCALL.out).mono ?_; rintro e w' ⟨rfl, ⟨m1, rfl⟩⟩)
  go_ret
  exact ⟨by first | rfl | (simp; done), by repeat (first | exact Drawn0.refl _ | apply Drawn0.step)⟩

end Go.Proofs.Ytkhepijngopmbaa.M
