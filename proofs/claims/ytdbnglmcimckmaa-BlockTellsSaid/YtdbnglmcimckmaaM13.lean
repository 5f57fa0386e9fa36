/- Part of a claim: what some functions of the program compute, each with its contract; no condition of its own. Written by a program of this workplace (gen.py, over the print of the kit) and by hand. -/
import Derived.Test.YtdbnglmcimckmaaM0
import Derived.Test.YtdbnglmcimckmaaM1
namespace Go.Proofs.Ytdbnglmcimckmaa.M
open Go.RowKit Go.Proofs.YtdbnglmcimckmaaW.PrintWords Go.Proofs.YtdbnglmcimckmaaW.PrintLast Go.Proofs.YtdbnglmcimckmaaW.PrintMore
attribute [local go_sem] max2_int min2_int max_two min_two max_three min_three max_four min_four   -- for this text's walks alone
set_option linter.unusedVariables false
set_option linter.unusedSimpArgs false

-- NOT PRINTED: function 38 (slices_IndexFunc_byte_byte_38)

-- NOT PRINTED: function 33 (slices_ContainsFunc_byte_byte_33)

/-! ### block_Zero: function 25 -/
def block_Zero.f (l0 : List Int) : Option Bool := some (!(l0.any fun b => b != 0))
theorem block_Zero.pred (b : Int) (W : World) : Calls Try.prog 34 #[.int .u8 b] W fun e w' => e = .returned (.bool (b != 0)) ∧ Drawn0 W w' := by
  go_enter Try.func34, Try.ntmps34
  go_wp2
  go_ret
  exact ⟨by first | rfl | (simp; done) | (simp [*]; done), by repeat (first | exact Drawn0.refl _ | apply Drawn0.step)⟩
set_option maxHeartbeats 8000000 in
set_option maxRecDepth 100000 in
theorem idx_bytes (A0 : Option Addr) (c0 : Nat) (l0 : List Int) (w : World) (hr0 : Kd.C (Kd.int .u8) w A0 l0.length l0) (hc0 : l0.length ≤ c0) :
    Calls Try.prog 38 #[.slice A0 l0.length c0, .func (.func 34) #[] #[]] w fun e w' => e = .returned (.int .i64 (fidx (fun b => b != 0) l0)) ∧ Drawn0 w w' := by
  have HR0 := Aside0.mk hr0
  have HC0 := Aside0.mk hc0
  have HM := Aside0.mk hr0.2.1
  clear hr0 hc0
  go_enter Try.func38, Try.ntmps38
  go_wp2
  go_loopg [5, 8] l0.length (fun kq _ v8 w' => ∃ (x8 : Int), v8 = .int .i64 x8 ∧ Aside0 (0 ≤ x8 ∧ x8 ≤ l0.length ∧ l0.length - x8.toNat ≤ kq ∧ ∀ j, j < x8.toNat → ((l0.getD j 0) != 0) = false) ∧ Drawn0 w w')
  case atStart => exact ⟨0, rfl, ⟨by omega, by omega, by omega, fun j hj => by simp at hj⟩, by repeat (first | exact Drawn0.refl _ | apply Drawn0.step)⟩
  case round =>
    obtain ⟨x8, rfl, HI, ⟨m1, rfl⟩⟩ := hrel
    by_cases c2 : x8 < (l0.length : Int)
    · have c2b0 : decide (x8 < (l0.length : Int)) = true := decide_eq_true c2
      have p1 : 0 ≤ x8 := HI.out.1
      obtain ⟨ad, e1, hx1⟩ := Kd.at_int HR0.out x8 p1 c2
      cases e1
      have p2 : x8 ≤ 9223372036854775806 := by have := HM.out; omega
      have HT := Aside0.mk c2
      replace c2 := eq_true c2
      replace p1 := eq_true p1
      have hcall := block_Zero.pred (rd l0 x8)
      cases hq : (rd l0 x8 != 0) with
      | true =>
        have HQ := Aside0.mk hq
        rw [hq] at hcall
        clear hq
        have HCALL := Aside0.mk hcall
        clear hcall
        go_wp2_with (go_at_call 34; refine (HCALL.out _).mono ?_; rintro e w' ⟨rfl, ⟨m2, rfl⟩⟩)
        go_ret
        have h8 : x8 = (x8.toNat : Int) := by have := HI.out.1; omega
        refine ⟨?_, by repeat (first | exact Drawn0.refl _ | apply Drawn0.step)⟩
        show Ending.returned (.int .i64 x8) = .returned (.int .i64 (fidx (fun b => b != 0) l0))
        rw [fidx_hit (fun b => b != 0) l0 0 x8.toNat (by have := HT.out; omega) HQ.out HI.out.2.2.2, ← h8]
      | false =>
        have HQ := Aside0.mk hq
        rw [hq] at hcall
        clear hq
        have HCALL := Aside0.mk hcall
        clear hcall
        go_wp2_with (go_at_call 34; refine (HCALL.out _).mono ?_; rintro e w' ⟨rfl, ⟨m2, rfl⟩⟩)
        go_roundg (l0.length - (x8.toNat + 1))
        case measure => have := HT.out; have := HI.out.1; have := HI.out.2.2.1; omega
        case rel =>
          refine ⟨x8 + 1, wrap_step (by have := HI.out.1; omega) p2, ⟨by have := HI.out.1; omega, by have := HT.out; omega, by have := HI.out.1; omega, fun j hj => ?_⟩, by repeat (first | exact Drawn0.refl _ | apply Drawn0.step)⟩
          by_cases ej : j = x8.toNat
          · subst ej; exact HQ.out
          · exact HI.out.2.2.2 j (by have := HI.out.1; omega)
    · have c2b0 : decide (x8 < (l0.length : Int)) = false := decide_eq_false c2
      have HT := Aside0.mk c2
      clear c2
      go_wp2
      go_ret
      refine ⟨?_, by repeat (first | exact Drawn0.refl _ | apply Drawn0.step)⟩
      show Ending.returned (.int .i64 (-1)) = .returned (.int .i64 (fidx (fun b => b != 0) l0))
      rw [fidx_miss (fun b => b != 0) l0 0 (fun j hj => HI.out.2.2.2 j (by have := HT.out; have := HI.out.2.1; omega))]
set_option maxHeartbeats 8000000 in
set_option maxRecDepth 100000 in
theorem block_Zero.calls (A0 : Option Addr) (c0 : Nat) (l0 : List Int) (r : Bool) (w : World) (hr0 : Kd.C (Kd.int .u8) w A0 l0.length l0) (hc0 : l0.length ≤ c0) (h : block_Zero.f l0 = some r) :
    Calls Try.prog 25 #[.slice A0 l0.length c0] w fun e w' => e = .returned (.bool r) ∧ Drawn0 w w' := by
  have h1 : Calls Try.prog 33 #[.slice A0 l0.length c0, .func (.func 34) #[] #[]] w fun e w' => e = .returned (.bool (l0.any fun b => b != 0)) ∧ Drawn0 w w' := by
    have HCALL := Aside0.mk (idx_bytes A0 c0 l0 w hr0 hc0)
    clear hr0 hc0 h
    rw [← fidx_ge (fun b => b != 0) l0]
    generalize fidx (fun b => b != 0) l0 = n at HCALL ⊢
    go_enter Try.func33, Try.ntmps33
    go_wp2_with (go_at_call 38; refine (HCALL.out).mono ?_; rintro e w' ⟨rfl, ⟨m1, rfl⟩⟩)
    go_ret
    exact ⟨by first | rfl | (simp; done), by repeat (first | exact Drawn0.refl _ | apply Drawn0.step)⟩
  have HCALL := Aside0.mk h1
  obtain rfl := Option.some.inj h
  clear hr0 hc0 h h1
  generalize (l0.any fun b => b != 0) = b at HCALL ⊢
  go_enter Try.func25, Try.ntmps25
  go_wp2_with (go_at_call 33; refine (HCALL.out).mono ?_; rintro e w' ⟨rfl, ⟨m1, rfl⟩⟩)
  go_ret
  exact ⟨by first | rfl | (simp; done), by repeat (first | exact Drawn0.refl _ | apply Drawn0.step)⟩

theorem block_Zero.tells (l : List Int) : block_Zero.f l = some (l.all fun b => b == 0) := by
  unfold block_Zero.f
  congr 1
  induction l with
  | nil => rfl
  | cons a l ih =>
    simp only [List.any_cons, List.all_cons, Bool.not_or, ih]
    cases h : (a == 0) <;> simp_all [bne]

end Go.Proofs.Ytdbnglmcimckmaa.M
