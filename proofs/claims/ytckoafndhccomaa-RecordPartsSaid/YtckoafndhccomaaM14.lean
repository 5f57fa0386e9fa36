/- Part of a claim: what some functions of the program compute, each with its contract; no condition of its own. Written by a program of this workplace (gen.py, over the print of the kit) and by hand. -/
import Derived.Test.YtckoafndhccomaaM0
import Derived.Test.YtckoafndhccomaaM2
namespace Go.Proofs.Ytckoafndhccomaa.M
open Go.RowKit Go.Proofs.YtckoafndhccomaaW.PrintWords Go.Proofs.YtckoafndhccomaaW.PrintLast Go.Proofs.YtckoafndhccomaaW.PrintMore
attribute [local go_sem] max2_int min2_int max_two min_two max_three min_three max_four min_four   -- for this text's walks alone
set_option linter.unusedVariables false
set_option linter.unusedSimpArgs false

/-! ### block_May: function 21 -/
def block_May.f (l0 : List (List Int)) : Option Bool := some (!(l0.any fun b => b.length != 512))
theorem block_May.pred : PredRow 31 (fun b => b.length != 512) := by
  intro W A c l hr hc
  have HM := hr.2.1
  clear hr hc
  cases hq : (l.length != 512) with
  | true =>
    have HQ := Aside0.mk (show l.length ≠ 512 by simpa using hq)
    have h2 : ((l.length : Int) != 512) = true := by
      have : l.length ≠ 512 := by simpa using hq
      exact bne_iff_ne.2 (by omega)
    have h3 : ((l.length : Int) == 512) = false := by simpa using h2
    clear hq
    go_enter Try.func31, Try.ntmps31
    go_wp2
    go_ret
    exact ⟨by first | rfl | (simp; done) | (simp [HQ.out]; done), by repeat (first | exact Drawn0.refl _ | apply Drawn0.step)⟩
  | false =>
    have HQ := Aside0.mk (show l.length = 512 by simpa using hq)
    have h2 : ((l.length : Int) != 512) = false := by
      have : l.length = 512 := by simpa using hq
      exact bne_eq_false_iff_eq.2 (by omega)
    have h3 : ((l.length : Int) == 512) = true := by simpa using h2
    clear hq
    go_enter Try.func31, Try.ntmps31
    go_wp2
    go_ret
    exact ⟨by first | rfl | (simp; done) | (simp [HQ.out]; done), by repeat (first | exact Drawn0.refl _ | apply Drawn0.step)⟩
set_option maxHeartbeats 8000000 in
set_option maxRecDepth 100000 in
theorem block_May.calls (A0 : Option Addr) (c0 : Nat) (l0 : List (List Int)) (r : Bool) (w : World) (hr0 : Kd.C (Kd.slice 5 (Kd.int .u8)) w A0 l0.length l0) (hc0 : l0.length ≤ c0) (h : block_May.f l0 = some r) :
    Calls Try.prog 21 #[.slice A0 l0.length c0] w fun e w' => e = .returned (.bool r) ∧ Drawn0 w w' := by
  have HCALL := Aside0.mk (contains_rows 31 _ (enters_of Try.func31 (by kernel_rfl) rfl) block_May.pred A0 c0 l0 w hr0 hc0)
  obtain rfl := Option.some.inj h
  clear hr0 hc0 h
  generalize (l0.any fun b => b.length != 512) = b at HCALL ⊢
  go_enter Try.func21, Try.ntmps21
  go_wp2_with (go_at_call 30; refine (HCALL.out).mono ?_; rintro e w' ⟨rfl, ⟨m1, rfl⟩⟩)
  go_ret
  exact ⟨by first | rfl | (simp; done), by repeat (first | exact Drawn0.refl _ | apply Drawn0.step)⟩

end Go.Proofs.Ytckoafndhccomaa.M
