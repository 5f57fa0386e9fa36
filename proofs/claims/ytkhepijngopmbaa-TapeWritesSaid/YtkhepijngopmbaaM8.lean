/- Part of a claim: what some functions of the program compute, each with its contract; no condition of its own. Written by a program of this workplace (gen.py, over the print of the kit) and by hand. -/
import Derived.Test.YtkhepijngopmbaaM0
import Derived.Test.YtkhepijngopmbaaM7
namespace Go.Proofs.Ytkhepijngopmbaa.M
open Go.RowKit Go.Proofs.YtkhepijngopmbaaW.PrintWords Go.Proofs.YtkhepijngopmbaaW.PrintLast Go.Proofs.YtkhepijngopmbaaW.PrintMore
attribute [local go_sem] max2_int min2_int max_two min_two max_three min_three max_four min_four   -- for this text's walks alone
set_option linter.unusedVariables false
set_option linter.unusedSimpArgs false

/-- What is known of an argument that is a tape. -/
def TapeOk (a : Int) (l : List (List Int)) : Prop := (Lit.int .i64 a).wf = true ∧ RowsOk l
theorem fits_tape : Fits Try.prog 24 k24 (fun x => TapeOk x.f0 x.f1) := by
  intro H enc w base spare held fuel cs x h
  obtain ⟨y, hK, h0, h1, _⟩ := fits_iso (f := fun x : S24 => (x.f0, x.f1, x.f2)) (g := fun p => ⟨p.1, p.2.1, p.2.2⟩) (fun _ => rfl) (fits_struct3 Try.underlying24 (by kernel_rfl) rfl rfl rfl (by kernel_rfl) (by kernel_rfl) (by kernel_rfl) (fits_int Try.underlying3) fits_rows (fits_bool Try.underlying4)) H enc w base spare held fuel cs x h
  exact ⟨y, hK, h0, h1⟩
theorem tape_value {w : World} {x : S24} {cs : Array Value} (h : k24.K w x (Value.agg cs).cells.toList) : ∃ A c, cs = #[.int .i64 x.f0, .slice A x.f1.length c, .bool x.f2] ∧ x.f1.length ≤ c ∧ Kd.C (Kd.slice 5 (Kd.int .u8)) w A x.f1.length x.f1 := by
  obtain ⟨A, c, he, hl, hC⟩ := k24_open h
  refine ⟨A, c, ?_, hl, hC⟩
  have h2 : cs.toList = _ := he
  apply Array.ext'
  rw [h2]

end Go.Proofs.Ytkhepijngopmbaa.M
