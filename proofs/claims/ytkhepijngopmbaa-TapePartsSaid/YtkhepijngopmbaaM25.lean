/- Part of a claim: what some functions of the program compute, each with its contract; no condition of its own. Written by a program of this workplace (gen.py, over the print of the kit) and by hand. -/
import Derived.Test.YtkhepijngopmbaaM0
import Derived.Test.YtkhepijngopmbaaM23
import Derived.Test.YtkhepijngopmbaaM24
namespace Go.Proofs.Ytkhepijngopmbaa.M
open Go.RowKit Go.Proofs.YtkhepijngopmbaaW.PrintWords Go.Proofs.YtkhepijngopmbaaW.PrintLast Go.Proofs.YtkhepijngopmbaaW.PrintMore
attribute [local go_sem] max2_int min2_int max_two min_two max_three min_three max_four min_four   -- for this text's walks alone
set_option linter.unusedVariables false
set_option linter.unusedSimpArgs false

/-! ### reelkeeperlaw12_TapeParts: its ways together -/
def reelkeeperlaw12_TapeParts.f (k : Nat) (a0_0 : Int) (l0_1 : List (List Int)) (a0_2 : Bool) (l1 : List (List Int)) (l2 : List (List Int)) : Option (Bool) := ((reelkeeperlaw12_TapeParts_v0.f k a0_0 l0_1 a0_2 l1 l2).or (reelkeeperlaw12_TapeParts_v1.f k a0_0 l0_1 a0_2 l1 l2))
theorem reelkeeperlaw12_TapeParts.calls (k : Nat) (a0_0 : Int) (A0_1 : Option Addr) (c0_1 : Nat) (l0_1 : List (List Int)) (a0_2 : Bool) (P1_ : Nat → Prop) (A1 : Option Addr) (c1 : Nat) (l1 : List (List Int)) (P2_ : Nat → Prop) (A2 : Option Addr) (c2 : Nat) (l2 : List (List Int)) (r : Bool) (w : World) (hr0_1 : Kd.C (Kd.slice 5 (Kd.int .u8)) w A0_1 l0_1.length l0_1) (hc0_1 : l0_1.length ≤ c0_1) (hs1 : Kd.V (Kd.slice 5 (Kd.int .u8)) 25 w w.heap.size (fun k_ => P1_ k_) (.slice A1 l1.length c1) l1) (hs2 : Kd.V (Kd.slice 5 (Kd.int .u8)) 25 w w.heap.size (fun k_ => P2_ k_) (.slice A2 l2.length c2) l2) (h : reelkeeperlaw12_TapeParts.f k a0_0 l0_1 a0_2 l1 l2 = some r) :
    Calls Try.prog 5 #[.agg #[.int .i64 a0_0, .slice A0_1 l0_1.length c0_1, .bool a0_2], .slice A1 l1.length c1, .slice A2 l2.length c2] w fun e w' => e = .returned (.bool r) ∧ Below w.heap.size w w' := by
  unfold reelkeeperlaw12_TapeParts.f at h
  cases e0 : reelkeeperlaw12_TapeParts_v0.f k a0_0 l0_1 a0_2 l1 l2 with
  | some r0 =>
    rw [e0] at h
    have q0 : r0 = r := by simpa using h
    subst q0
    exact reelkeeperlaw12_TapeParts_v0.calls k a0_0 A0_1 c0_1 l0_1 a0_2 P1_ A1 c1 l1 P2_ A2 c2 l2 r0 w hr0_1 hc0_1 hs1 hs2 e0
  | none =>
  rw [e0, Option.none_or] at h
  exact reelkeeperlaw12_TapeParts_v1.calls k a0_0 A0_1 c0_1 l0_1 a0_2 P1_ A1 c1 l1 P2_ A2 c2 l2 r w hr0_1 hc0_1 hs1 hs2 h

end Go.Proofs.Ytkhepijngopmbaa.M
