/- TapeWrites: what is written is read at the end, all else as it was; with an error nothing changes: for every tape, all bytes and every int. -/
import Derived.Test.YtkhepijngopmbaaM0
import Derived.Test.YtkhepijngopmbaaM8
import Derived.Test.YtkhepijngopmbaaM11
import Derived.Test.YtkhepijngopmbaaM18
import Derived.Test.YtkhepijngopmbaaM22
import Derived.Test.YtkhepijngopmbaaM27
import Derived.Test.YtkhepijngopmbaaM29
import Derived.Test.YtkhepijngopmbaaM34
import Derived.Test.YtkhepijngopmbaaM35
import Derived.Test.YtkhepijngopmbaaM36
import Derived.Test.YtkhepijngopmbaaM37
import Derived.Test.YtkhepijngopmbaaM38
namespace Go.Proofs.Ytkhepijngopmbaa.Pure
open Go.RowKit Go.Proofs.Ytkhepijngopmbaa.M Go.Proofs.YtkhepijngopmbaaW.PrintWords Go.Proofs.YtkhepijngopmbaaW.PrintLast
theorem TapeWrites (a : Int) (l : List (List Int)) (b : Bool) (r : List Int) (i : Int) (ok : TapeOk a l) (ok2 : r.length ≤ maxLen ∧ ∀ x ∈ r, (Lit.int .u8 x).wf = true) (_hw : (Lit.int .i64 i).wf = true) : ∃ q, reelkeeperlaw12_TapeWrites.f q a l b r i = some true := by
  have hm : l.length ≤ 9223372036854775807 := by have := ok.2.1; unfold maxLen at this; exact this
  obtain ⟨t, ⟨K1, h1⟩, hb⟩ := reelkeeperlaw11_FewRecs.tells l hm
  refine ⟨K1 + 1, ?_⟩
  unfold reelkeeperlaw12_TapeWrites.f
  have g1 : reelkeeperlaw11_FewRecs.f (K1 + 1) l = some t := h1 _ (by omega)
  rw [reelkeeperlaw12_awake.tells, Option.bind_some, g1, Option.bind_some, if_pos rfl]
  cases t with
  | false => rw [if_neg (by decide)]; simp only [reelkeeperlaw12_TapeWrites.j0]; rw [if_pos trivial]
  | true =>
    obtain ⟨hl, hx⟩ := hb rfl
    have hs := sized_few hl hx
    rw [if_pos rfl]
    by_cases hr : (r.length : Int) > 12000
    · rw [if_pos hr]; simp only [reelkeeperlaw12_TapeWrites.j0]; rw [if_pos trivial]
    · rw [if_neg hr]
      simp only [tape_May.f, Option.bind_some]
      cases hmay : mayT a l with
      | false => simp only [reelkeeperlaw12_TapeWrites.j0, Bool.not_false]; rw [if_pos trivial]
      | true =>
        simp only [reelkeeperlaw12_TapeWrites.j0, Bool.not_true]
        rw [if_neg (by decide), tape_Write.tells _ _ _ _ hs (by omega), Option.bind_some]
        by_cases h1 : recMay r = true
        · by_cases h2 : b = true ∨ (l.length : Int) = a
          · have hw : writeT a l b r = (a, l, b, 8) := by unfold writeT; rw [if_pos hmay, if_pos h1, if_pos h2]
            rw [hw]
            simp only [tape_Same.self, Option.bind_some]
            rw [if_neg (by decide)]
          · have hw : writeT a l b r = (a, l ++ [r], b, 0) := by unfold writeT; rw [if_pos hmay, if_pos h1, if_neg h2]
            rw [hw]
            have hn : (l.length : Int) ≠ a := fun e => h2 (.inr e)
            have hm2 := mayT_snoc hmay h1 hn
            have hs2 := sized_snoc hs (by omega) (by omega : r.length ≤ 1000000)
            obtain ⟨p0, p1, p2, p3⟩ := mayT_parts hmay
            have hlen : (l ++ [r]).length = l.length + 1 := by simp
            have hwr : wrap64 ((l.length : Int) + 1) = ((l.length + 1 : Nat) : Int) := by unfold wrap64; omega
            dsimp only
            rw [if_pos rfl, tape_Read.tells _ _ _ _ hs2, Option.bind_some, tape_Read.tells _ _ _ _ hs, Option.bind_some, tape_Read.tells _ _ _ _ hs2, Option.bind_some, readT_last hm2]
            unfold tape_May.f
            rw [Option.bind_some, if_pos hm2, if_pos (by rw [hlen]; exact hwr.symm), if_pos (by rw [hlen]; omega), if_pos rfl, if_pos rfl]
            by_cases hi : i = (l.length : Int)
            · rw [if_pos hi]
            · rw [if_neg hi, readT_snoc hmay hm2 hi, if_pos rfl, beq_self_eq_true]
        · have hw : writeT a l b r = (a, l, b, 1) := by unfold writeT; rw [if_pos hmay, if_neg h1]
          rw [hw]
          simp only [tape_Same.self, Option.bind_some]
          rw [if_neg (by decide)]
end Go.Proofs.Ytkhepijngopmbaa.Pure
