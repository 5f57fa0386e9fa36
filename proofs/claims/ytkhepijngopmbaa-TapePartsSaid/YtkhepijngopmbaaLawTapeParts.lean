/- The law reelkeeper/reelkeeperlaw12.TapeParts: for every input it returns true and leaves its arguments as they read before; no condition. -/
import Derived.Test.YtkhepijngopmbaaRows
import Derived.Test.YtkhepijngopmbaaM5
import Derived.Test.YtkhepijngopmbaaM25
import Derived.Test.YtkhepijngopmbaaPureTapeParts
import Derived.WalkKit
import Derived.ProofKit
import Derived.OpenShut
import Derived.ShutString
import Derived.ChangeOld
import Derived.Below
import Derived.SizedLaws
namespace Go.Proofs.Ytkhepijngopmbaa.tapeParts
open Go.ChangeShapes Go.WideShapes Go.ChangeAt Go.RowKit
open Go.ChangeMaps (open_string shut_string)
open Go.Proofs.YtkhepijngopmbaaW.PrintWords
set_option linter.unusedVariables false
theorem own : ownKnob Try.prog.godebug = none := by kernel_rfl
theorem laidOut : laidOutB Try.prog = true := by kernel_rfl
set_option maxRecDepth 100000 in
theorem lifted (os : Os) (started : os.Started) (H : Type) (enc : TypeId × Value → H) :
    ReturnsInHanded {} Try.checked os 5 .any (Rows.tapePartsSpec.pre6 enc Try.prog Try.f5 Rows.tapePartsRow.domain false) (Rows.tapePartsSpec.post enc Try.prog Try.f5 false true false false) := by
  refine returnsInHanded_of_change_sized (C := Try.checked) own started (by kernel_rfl) Try.func5
    (ChangeSpec.witness6 (enc := enc) (C := Try.checked) false ⟨#[], #[.agg #[.int .i64 0, .slice none 0 0, .bool false], .slice none 0 0, .slice none 0 0], []⟩ 8 (by kernel_rfl) (by kernel_rfl) (by kernel_rfl) (by kernel_rfl)) ?_
  intro W base args ds gs before hval0 hW hcnd hsz0 _
  have hsz : (DataW.weightsEach Try.prog (Try.f5.params.toList ++ Rows.tapePartsSpec.plain.varTypes Try.prog) (ds ++ gs)).all (· ≤ reachBytes) = true := hsz0
  have hval : ∀ (j : Nat) t v, Try.f5.params[j]? = some t → args[j]? = some v → Value.okWide Try.prog W .any base t v := hval0
  have hW' := hW
  obtain ⟨p, q, hA0, hV, rfl, hfz, hnd⟩ := hW
  have hA : DataW.TrodAll enc Try.prog W 0 (fun _ => true) true Try.f5.params.toList args.toList ds p := hA0
  rw [Try.params5] at hA hval hsz
  obtain ⟨v0, vs0, d0, ds0, p0, q0, hargs, rfl, rfl, h0, r0⟩ := trodAll_cons hA
  obtain ⟨v1, vs1, d1, ds1, p1, q1, rfl, rfl, rfl, h1, r1⟩ := trodAll_cons r0
  obtain ⟨v2, vs2, d2, ds2, p2, q2, rfl, rfl, rfl, h2, r2⟩ := trodAll_cons r1
  obtain ⟨rfl, rfl, rfl⟩ := trodAll_nil r2
  obtain rfl : args = #[v0, v1, v2] := by cases args; simp_all
  obtain ⟨rfl, rfl⟩ := trodVars_none hV
  obtain ⟨cs0, rfl, _⟩ := okWide_struct Try.underlying24 (hval 0 24 v0 rfl rfl)
  have k0 := h0
  have lt0 : ∀ x ∈ p0, x.block < W.heap.size := by obtain ⟨m, hm⟩ := k0; exact DataW.trod_lt m _ _ _ hm
  obtain ⟨y0, hK0, ok0⟩ : ∃ y : M.S24, M.k24.K W y (Value.agg cs0).cells.toList ∧ M.TapeOk y.f0 y.f1 := by
    obtain ⟨fuel, hf⟩ := k0
    obtain ⟨y, hK, hok⟩ := M.fits_tape _ enc W 0 _ _ fuel _ _ hf
    exact ⟨y, hK, hok⟩
  obtain ⟨a0, cap0, rfl, hc0, hC0⟩ := M.tape_value hK0
  obtain ⟨a1, len1, cap1, rfl⟩ := okWide_slice Try.underlying22 (hval 1 22 v1 rfl rfl)
  have k1 := h1
  have lt1 : ∀ x ∈ p1, x.block < W.heap.size := by obtain ⟨m, hm⟩ := k1; exact DataW.trod_lt m _ _ _ hm
  obtain ⟨l1, hl1, hC1, hc1, ok1⟩ : ∃ l : List (List Int), l.length = len1 ∧ Kd.C (Kd.slice 5 (Kd.int .u8)) W a1 l.length l ∧ l.length ≤ cap1 ∧ M.RowsOk l := by
    obtain ⟨fuel, hf⟩ := k1
    obtain ⟨x, ⟨A, c, he, hl, hC⟩, hok⟩ := M.fits_rows _ enc W 0 _ _ fuel _ _ hf
    simp [Value.cells] at he
    obtain ⟨rfl, rfl, rfl⟩ := he
    exact ⟨x, rfl, hC, hl, hok⟩
  subst hl1
  obtain ⟨a2, len2, cap2, rfl⟩ := okWide_slice Try.underlying22 (hval 2 22 v2 rfl rfl)
  have k2 := h2
  have lt2 : ∀ x ∈ p2, x.block < W.heap.size := by obtain ⟨m, hm⟩ := k2; exact DataW.trod_lt m _ _ _ hm
  obtain ⟨l2, hl2, hC2, hc2, ok2⟩ : ∃ l : List (List Int), l.length = len2 ∧ Kd.C (Kd.slice 5 (Kd.int .u8)) W a2 l.length l ∧ l.length ≤ cap2 ∧ M.RowsOk l := by
    obtain ⟨fuel, hf⟩ := k2
    obtain ⟨x, ⟨A, c, he, hl, hC⟩, hok⟩ := M.fits_rows _ enc W 0 _ _ fuel _ _ hf
    simp [Value.cells] at he
    obtain ⟨rfl, rfl, rfl⟩ := he
    exact ⟨x, rfl, hC, hl, hok⟩
  subst hl2
  clear hA0 hval0 hsz0 hsz
  obtain ⟨kk, hk⟩ := Pure.TapeParts y0.f0 y0.f1 y0.f2 l1 l2 ok0 ok1 ok2
  refine (M.reelkeeperlaw12_TapeParts.calls kk y0.f0 a0 cap0 y0.f1 y0.f2 (fun k_ => k_ < W.heap.size) a1 cap1 l1 (fun k_ => k_ < W.heap.size) a2 cap2 l2 true W hC0 hc0 (Kd.V_mk hc1 (Kd.C_F (Kd.heap_slice _ (Kd.heap_int _)) hC1)) (Kd.V_mk hc2 (Kd.C_F (Kd.heap_slice _ (Kd.heap_int _)) hC2)) hk).mono fun e W' ⟨he, bel⟩ => ?_
  subst he
  exact ⟨_, rfl, _, _, _, [], _, [], hW', trodAll_mk1 (shut_bool Try.underlying4 _), (trodAll_cons_mk (Below.trod laidOut (by kernel_rfl) (of_decide_eq_true (by kernel_rfl)) k0 bel lt0) (trodAll_cons_mk (Below.trod laidOut (by kernel_rfl) (of_decide_eq_true (by kernel_rfl)) k1 bel lt1) (trodAll_cons_mk (Below.trod laidOut (by kernel_rfl) (of_decide_eq_true (by kernel_rfl)) k2 bel lt2) trodAll_mk0))), rfl, bel.frame _, fun h => by cases h⟩
theorem over : Rows.tapePartsRow.holds Try.pinned (OpenSpec.ofChange Rows.tapePartsSpec) :=
  OpenClaim.holds_of_wide 5 Try.f5 rfl rfl rfl rfl rfl rfl rfl ⟨rfl, rfl, rfl, rfl, rfl⟩ rfl rfl rfl rfl rfl (by kernel_rfl) Try.func5 (by kernel_rfl)
    (of_decide_eq_true (by kernel_rfl)) (by unfold Func.isWrapper; first | (rw [if_pos (by decide +kernel)]; kernel_rfl) | (rw [if_neg (by decide +kernel)]; exact ⟨rfl, rfl⟩))
    (fun os started H enc _ => lifted os started H enc)
theorem proved : Rows.TapePartsSaid := over
#print axioms proved
end Go.Proofs.Ytkhepijngopmbaa.tapeParts
namespace Go.Proofs.Ytkhepijngopmbaa
/-- The row, under a short name, for the claim. -/
theorem tapeParts_holds : Rows.TapePartsSaid := tapeParts.proved
end Go.Proofs.Ytkhepijngopmbaa
