/- Part of a claim: what some functions of the program compute, each with its contract; no condition of its own. Written by a program of this workplace (gen.py, over the print of the kit) and by hand. -/
import Derived.Test.YtckoafndhccomaaM0
import Derived.Test.YtckoafndhccomaaM3
namespace Go.Proofs.Ytckoafndhccomaa.M
open Go.RowKit Go.Proofs.YtckoafndhccomaaW.PrintWords Go.Proofs.YtckoafndhccomaaW.PrintLast Go.Proofs.YtckoafndhccomaaW.PrintMore
attribute [local go_sem] max2_int min2_int max_two min_two max_three min_three max_four min_four   -- for this text's walks alone
set_option linter.unusedVariables false
set_option linter.unusedSimpArgs false

/-! ### record_joined: function 26 -/
/-- The bytes of rows, one behind the other. Where they'd be too many for a slice the model's run ends: no answer. -/
def record_joined.f (l0 : List (List Int)) : Option (List Int) := if l0.flatten.length ≤ 140737488355328 then some l0.flatten else none
set_option maxHeartbeats 8000000 in
set_option maxRecDepth 100000 in
theorem record_joined.calls (A0 : Option Addr) (c0 : Nat) (l0 : List (List Int)) (r : List Int) (w : World) (hr0 : Kd.C (Kd.slice 5 (Kd.int .u8)) w A0 l0.length l0) (hc0 : l0.length ≤ c0) (h : record_joined.f l0 = some r) :
    Calls Try.prog 26 #[.slice A0 l0.length c0] w fun e w' => ∃ v0_ : Value, e = .returned (v0_) ∧ Kd.R (Kd.int .u8) 5 w' w.heap.size (fun _ => True) v0_ r ∧ Below w.heap.size w w' := by
  unfold record_joined.f at h
  by_cases hlen : l0.flatten.length ≤ 140737488355328
  · rw [if_pos hlen] at h
    obtain rfl := Option.some.inj h
    have HCALL := Aside0.mk (concat_bytes A0 c0 l0 w hr0 hc0 hlen)
    clear hr0 hc0 h hlen
    generalize l0.flatten = xs at HCALL ⊢
    go_enter Try.func26, Try.ntmps26
    go_wp2_with (go_at_call 35; refine (HCALL.out).mono ?_; rintro e w' ⟨v, rfl, hv, hb⟩; have HV := Aside0.mk hv; have HB2 := Aside0.mk hb; clear hv hb)
    go_ret
    exact ⟨_, rfl, HV.out, HB2.out⟩
  · rw [if_neg hlen] at h; cases h

end Go.Proofs.Ytckoafndhccomaa.M
