/- Part of a claim: what some functions of the program compute, each with its contract; no condition of its own. Written by a program of this workplace (gen.py, over the print of the kit) and by hand. -/
import Derived.Test.YtdbnglmcimckmaaM0
import Derived.Test.YtdbnglmcimckmaaM2
namespace Go.Proofs.Ytdbnglmcimckmaa.M
open Go.RowKit Go.Proofs.YtdbnglmcimckmaaW.PrintWords Go.Proofs.YtdbnglmcimckmaaW.PrintLast Go.Proofs.YtdbnglmcimckmaaW.PrintMore
attribute [local go_sem] max2_int min2_int max_two min_two max_three min_three max_four min_four   -- for this text's walks alone
set_option linter.unusedVariables false
set_option linter.unusedSimpArgs false

/-! ### block_joined: function 27 -/
/-- The text of bytes. Where they'd be too many for a slice the model's run ends: no answer. -/
def block_joined.f (l0 : List (List Int)) : Option ByteArray := if l0.flatten.length ≤ 140737488355328 then some (strOfNums l0.flatten) else none
set_option maxHeartbeats 8000000 in
set_option maxRecDepth 100000 in
theorem block_joined.calls (A0 : Option Addr) (c0 : Nat) (l0 : List (List Int)) (r : ByteArray) (w : World) (hr0 : Kd.C (Kd.slice 5 (Kd.int .u8)) w A0 l0.length l0) (hc0 : l0.length ≤ c0) (h : block_joined.f l0 = some r) :
    Calls Try.prog 27 #[.slice A0 l0.length c0] w fun e w' => e = .returned (.string r) ∧ Below w.heap.size w w' := by
  unfold block_joined.f at h
  by_cases hlen : l0.flatten.length ≤ 140737488355328
  · rw [if_pos hlen] at h
    obtain rfl := Option.some.inj h
    have HCALL := Aside0.mk (concat_bytes A0 c0 l0 w hr0 hc0 hlen)
    clear hr0 hc0 h hlen
    generalize l0.flatten = xs at HCALL ⊢
    go_enter Try.func27, Try.ntmps27
    go_wp2_with (go_at_call 35; refine (HCALL.out).mono ?_; rintro e w' ⟨v, rfl, hv, hb⟩; obtain ⟨A1, c1, he, hl, hC⟩ := Kd.R_reads hv; subst he; have kS := Kd.C_string (dst := 9) (c := c1) Try.underlying31 Try.underlying5 Try.underlying9 hC; have HB2 := Aside0.mk hb; clear hv hb hl hC)
    go_ret
    exact ⟨rfl, HB2.out⟩
  · rw [if_neg hlen] at h; cases h

end Go.Proofs.Ytdbnglmcimckmaa.M
