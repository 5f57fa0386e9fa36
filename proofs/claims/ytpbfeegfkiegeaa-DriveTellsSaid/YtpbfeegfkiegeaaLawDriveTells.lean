/- The law reelkeeper/reelkeeperlaw13.DriveTells: for every input it returns true and leaves its arguments as they read before; no condition. -/
import Derived.Test.YtpbfeegfkiegeaaRows
import Derived.Test.YtpbfeegfkiegeaaM4
import Derived.Test.YtpbfeegfkiegeaaM35
import Derived.Test.YtpbfeegfkiegeaaPureDriveTells
import Derived.WalkKit
import Derived.ProofKit
import Derived.OpenShut
import Derived.ShutString
import Derived.ChangeOld
import Derived.Below
import Derived.SizedLaws
namespace Go.Proofs.Ytpbfeegfkiegeaa.driveTells
open Go.ChangeShapes Go.WideShapes Go.ChangeAt Go.RowKit
open Go.ChangeMaps (open_string shut_string)
open Go.Proofs.YtpbfeegfkiegeaaW.PrintWords
set_option linter.unusedVariables false
theorem own : ownKnob Try.prog.godebug = none := by kernel_rfl
theorem laidOut : laidOutB Try.prog = true := by kernel_rfl
set_option maxRecDepth 100000 in
theorem lifted (os : Os) (started : os.Started) (H : Type) (enc : TypeId × Value → H) :
    ReturnsInHanded {} Try.checked os 3 .any (Rows.driveTellsSpec.pre6 enc Try.prog Try.f3 Rows.driveTellsRow.domain false) (Rows.driveTellsSpec.post enc Try.prog Try.f3 false true false false) := by
  refine returnsInHanded_of_change_sized (C := Try.checked) own started (by kernel_rfl) Try.func3
    (ChangeSpec.witness6 (enc := enc) (C := Try.checked) false ⟨#[], #[.agg #[.slice none 0 0, .int .i64 0, .int .i64 0], .agg #[.slice none 0 0, .int .i64 0, .int .i64 0], .int .i64 0, .slice none 0 0], []⟩ 8 (by kernel_rfl) (by kernel_rfl) (by kernel_rfl) (by kernel_rfl)) ?_
  intro W base args ds gs before hval0 hW hcnd hsz0 _
  have hsz : (DataW.weightsEach Try.prog (Try.f3.params.toList ++ Rows.driveTellsSpec.plain.varTypes Try.prog) (ds ++ gs)).all (· ≤ reachBytes) = true := hsz0
  have hval : ∀ (j : Nat) t v, Try.f3.params[j]? = some t → args[j]? = some v → Value.okWide Try.prog W .any base t v := hval0
  have hW' := hW
  obtain ⟨p, q, hA0, hV, rfl, hfz, hnd⟩ := hW
  have hA : DataW.TrodAll enc Try.prog W 0 (fun _ => true) true Try.f3.params.toList args.toList ds p := hA0
  rw [Try.params3] at hA hval hsz
  obtain ⟨v0, vs0, d0, ds0, p0, q0, hargs, rfl, rfl, h0, r0⟩ := trodAll_cons hA
  obtain ⟨v1, vs1, d1, ds1, p1, q1, rfl, rfl, rfl, h1, r1⟩ := trodAll_cons r0
  obtain ⟨v2, vs2, d2, ds2, p2, q2, rfl, rfl, rfl, h2, r2⟩ := trodAll_cons r1
  obtain ⟨v3, vs3, d3, ds3, p3, q3, rfl, rfl, rfl, h3, r3⟩ := trodAll_cons r2
  obtain ⟨rfl, rfl, rfl⟩ := trodAll_nil r3
  obtain rfl : args = #[v0, v1, v2, v3] := by cases args; simp_all
  obtain ⟨rfl, rfl⟩ := trodVars_none hV
  obtain ⟨cs0, rfl, _⟩ := okWide_struct Try.underlying24 (hval 0 24 v0 rfl rfl)
  have k0 := h0
  have lt0 : ∀ x ∈ p0, x.block < W.heap.size := by obtain ⟨m, hm⟩ := k0; exact DataW.trod_lt m _ _ _ hm
  obtain ⟨y0, hK0, ok0⟩ : ∃ y : List M.S41 × Int × Int, M.kDrive.K W y (Value.agg cs0).cells.toList ∧ M.DriveOk y.1 y.2.1 y.2.2 := by
    obtain ⟨fuel, hf⟩ := k0
    obtain ⟨y, hK, hok⟩ := M.fits_drive _ enc W 0 _ _ fuel _ _ hf
    exact ⟨y, hK, hok⟩
  obtain ⟨a0, cap0, rfl, hc0, hC0⟩ := M.drive_value hK0
  obtain ⟨cs1, rfl, _⟩ := okWide_struct Try.underlying24 (hval 1 24 v1 rfl rfl)
  have k1 := h1
  have lt1 : ∀ x ∈ p1, x.block < W.heap.size := by obtain ⟨m, hm⟩ := k1; exact DataW.trod_lt m _ _ _ hm
  obtain ⟨y1, hK1, ok1⟩ : ∃ y : List M.S41 × Int × Int, M.kDrive.K W y (Value.agg cs1).cells.toList ∧ M.DriveOk y.1 y.2.1 y.2.2 := by
    obtain ⟨fuel, hf⟩ := k1
    obtain ⟨y, hK, hok⟩ := M.fits_drive _ enc W 0 _ _ fuel _ _ hf
    exact ⟨y, hK, hok⟩
  obtain ⟨a1, cap1, rfl, hc1, hC1⟩ := M.drive_value hK1
  obtain ⟨a2, rfl, rfl, rfl, w2⟩ := open_int Try.underlying3 (hval 2 3 v2 rfl rfl) h2
  obtain ⟨a3, len3, cap3, rfl⟩ := okWide_slice Try.underlying25 (hval 3 25 v3 rfl rfl)
  have k3 := h3
  have lt3 : ∀ x ∈ p3, x.block < W.heap.size := by obtain ⟨m, hm⟩ := k3; exact DataW.trod_lt m _ _ _ hm
  obtain ⟨l3, hl3, hC3, hc3, ok3⟩ : ∃ l : List Int, l.length = len3 ∧ Kd.C (Kd.int .u8) W a3 l.length l ∧ l.length ≤ cap3 ∧ (l.length ≤ maxLen ∧ ∀ b ∈ l, (Lit.int .u8 b).wf = true) := by
    obtain ⟨fuel, hf⟩ := k3
    obtain ⟨x, ⟨A, c, he, hl, hC⟩, hok⟩ := M.fits_bytes _ enc W 0 _ _ fuel _ _ hf
    simp [Value.cells] at he
    obtain ⟨rfl, rfl, rfl⟩ := he
    exact ⟨x, rfl, hC, hl, hok⟩
  subst hl3
  clear hA0 hval0 hsz0 hsz
  obtain ⟨kk, hk⟩ := Pure.DriveTells y0.1 y0.2.1 y0.2.2 y1.1 y1.2.1 y1.2.2 a2 l3 ok0 ok1 w2 ok3
  refine (M.reelkeeperlaw13_DriveTells.calls kk a0 cap0 y0.1 y0.2.1 y0.2.2 a1 cap1 y1.1 y1.2.1 y1.2.2 a2 a3 cap3 l3 true W hC0 hc0 hC1 hc1 hC3 hc3 hk).mono fun e W' ⟨he, bel⟩ => ?_
  subst he
  exact ⟨_, rfl, _, _, _, [], _, [], hW', trodAll_mk1 (shut_bool Try.underlying4 _), (trodAll_cons_mk (Below.trod laidOut (by kernel_rfl) (of_decide_eq_true (by kernel_rfl)) k0 bel lt0) (trodAll_cons_mk (Below.trod laidOut (by kernel_rfl) (of_decide_eq_true (by kernel_rfl)) k1 bel lt1) (trodAll_cons_mk (shut_int Try.underlying3 w2) (trodAll_cons_mk (Below.trod laidOut (by kernel_rfl) (of_decide_eq_true (by kernel_rfl)) k3 bel lt3) trodAll_mk0)))), rfl, bel.frame _, fun h => by cases h⟩
theorem over : Rows.driveTellsRow.holds Try.pinned (OpenSpec.ofChange Rows.driveTellsSpec) :=
  OpenClaim.holds_of_wide 3 Try.f3 rfl rfl rfl rfl rfl rfl rfl ⟨rfl, rfl, rfl, rfl, rfl⟩ rfl rfl rfl rfl rfl (by kernel_rfl) Try.func3 (by kernel_rfl)
    (of_decide_eq_true (by kernel_rfl)) (by unfold Func.isWrapper; first | (rw [if_pos (by decide +kernel)]; kernel_rfl) | (rw [if_neg (by decide +kernel)]; exact ⟨rfl, rfl⟩))
    (fun os started H enc _ => lifted os started H enc)
theorem proved : Rows.DriveTellsSaid := over
#print axioms proved
end Go.Proofs.Ytpbfeegfkiegeaa.driveTells
namespace Go.Proofs.Ytpbfeegfkiegeaa
/-- The row, under a short name, for the claim. -/
theorem driveTells_holds : Rows.DriveTellsSaid := driveTells.proved
end Go.Proofs.Ytpbfeegfkiegeaa
