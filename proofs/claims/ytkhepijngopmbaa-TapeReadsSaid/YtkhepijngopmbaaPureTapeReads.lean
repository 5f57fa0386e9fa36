/- TapeReads: all records of a tape are read, up to the last one; behind it is the end, ahead of the first one nothing: for every tape and every int. -/
import Derived.Test.YtkhepijngopmbaaM0
import Derived.Test.YtkhepijngopmbaaM8
import Derived.Test.YtkhepijngopmbaaM11
import Derived.Test.YtkhepijngopmbaaM20
import Derived.Test.YtkhepijngopmbaaM29
import Derived.Test.YtkhepijngopmbaaM34
import Derived.Test.YtkhepijngopmbaaM35
import Derived.Test.YtkhepijngopmbaaM36
import Derived.Test.YtkhepijngopmbaaM38
namespace Go.Proofs.Ytkhepijngopmbaa.Pure
open Go.RowKit Go.Proofs.Ytkhepijngopmbaa.M Go.Proofs.YtkhepijngopmbaaW.PrintWords Go.Proofs.YtkhepijngopmbaaW.PrintLast
theorem sized_few {l : List (List Int)} (h0 : l.length ≤ 60) (h1 : ∀ x ∈ l, x.length ≤ 12000) : sized l :=
  ⟨by omega, List.all_eq_true.2 (fun x hx => decide_eq_true (by have := h1 x hx; omega))⟩
theorem TapeReads (a : Int) (l : List (List Int)) (b : Bool) (i : Int) (ok : TapeOk a l) (_hw : (Lit.int .i64 i).wf = true) : ∃ q, reelkeeperlaw12_TapeReads.f q a l b i = some true := by
  have hm : l.length ≤ 9223372036854775807 := by have := ok.2.1; unfold maxLen at this; exact this
  obtain ⟨t, ⟨K1, h1⟩, hb⟩ := reelkeeperlaw11_FewRecs.tells l hm
  refine ⟨K1 + 1, ?_⟩
  unfold reelkeeperlaw12_TapeReads.f
  have g1 : reelkeeperlaw11_FewRecs.f (K1 + 1) l = some t := h1 _ (by omega)
  rw [reelkeeperlaw12_awake.tells, Option.bind_some, g1, Option.bind_some, if_pos rfl]
  cases t with
  | false => rw [if_neg (by decide)]; rfl
  | true =>
    obtain ⟨hl, hx⟩ := hb rfl
    have hs := sized_few hl hx
    rw [if_pos rfl]
    simp only [tape_May.f, Option.bind_some]
    cases hmay : mayT a l with
    | false => rfl
    | true =>
      simp only [reelkeeperlaw12_TapeReads.j0, Bool.not_true]
      rw [if_neg (by decide), tape_Read.tells _ _ _ _ hs, Option.bind_some]
      unfold readT
      rw [if_pos hmay]
      by_cases h0 : i < 0
      · rw [if_pos h0, if_pos h0, if_pos rfl]; rfl
      · rw [if_neg h0, if_neg h0]
        by_cases h2 : i ≥ (l.length : Int)
        · rw [if_pos h2, if_pos h2, if_pos rfl]; rfl
        · rw [if_neg h2, if_neg h2, if_pos rfl, if_pos (by omega), if_pos (by omega)]
          simp
end Go.Proofs.Ytkhepijngopmbaa.Pure
