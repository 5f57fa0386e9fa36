/- TapeCuts: a tape that is cut twice is as if cut at the lesser place; nothing that is left changes: for every tape and every two ints. -/
import Derived.Test.YtkhepijngopmbaaM0
import Derived.Test.YtkhepijngopmbaaM8
import Derived.Test.YtkhepijngopmbaaM11
import Derived.Test.YtkhepijngopmbaaM27
import Derived.Test.YtkhepijngopmbaaM34
import Derived.Test.YtkhepijngopmbaaM35
import Derived.Test.YtkhepijngopmbaaM36
import Derived.Test.YtkhepijngopmbaaM37
import Derived.Test.YtkhepijngopmbaaM42
import Derived.Test.YtkhepijngopmbaaM45
namespace Go.Proofs.Ytkhepijngopmbaa.Pure
open Go.RowKit Go.Proofs.Ytkhepijngopmbaa.M Go.Proofs.YtkhepijngopmbaaW.PrintWords Go.Proofs.YtkhepijngopmbaaW.PrintLast
theorem TapeCuts (a : Int) (l : List (List Int)) (b : Bool) (n : Int) (m : Int) (ok : TapeOk a l) (_hw : (Lit.int .i64 n).wf = true) (_hw2 : (Lit.int .i64 m).wf = true) : ∃ q, reelkeeperlaw12_TapeCuts.f q a l b n m = some true := by
  have hm : l.length ≤ 9223372036854775807 := by have := ok.2.1; unfold maxLen at this; exact this
  obtain ⟨t, ⟨K1, h1⟩, hb⟩ := reelkeeperlaw11_FewRecs.tells l hm
  refine ⟨K1 + 1, ?_⟩
  unfold reelkeeperlaw12_TapeCuts.f
  have g1 : reelkeeperlaw11_FewRecs.f (K1 + 1) l = some t := h1 _ (by omega)
  rw [reelkeeperlaw12_awake.tells, Option.bind_some, g1, Option.bind_some, if_pos rfl]
  cases t with
  | false => rw [if_neg (by decide)]; rfl
  | true =>
    obtain ⟨hl, hx⟩ := hb rfl
    have hs := sized_few hl hx
    rw [if_pos rfl]
    simp only [tape_May.f, Option.bind_some]
    cases hmay : mayT a l with
    | false => rw [if_neg (by decide)]; rfl
    | true =>
      rw [if_pos rfl]
      by_cases hmn : m > n
      · rw [decide_eq_true hmn]; rfl
      · rw [decide_eq_false hmn]
        simp only [reelkeeperlaw12_TapeCuts.j0]
        rw [if_neg (by decide), tape_Cut.tells _ _ _ _ hs, Option.bind_some]
        by_cases hn : n < 0 ∨ (l.length : Int) < n
        · have hc : cutT a l b n = (a, l, b, 9) := by unfold cutT; rw [if_pos hmay, if_pos hn]
          rw [hc]
          simp only [tape_Cut.tells _ _ _ _ hs, Option.bind_some, tape_Same.self]
          rfl
        · have hc : cutT a l b n = (a, l.take n.toNat, false, 0) := by unfold cutT; rw [if_pos hmay, if_neg hn]
          rw [hc]
          have hs2 := sized_take hs n.toNat
          have hm2 := mayT_take hmay n.toNat
          simp only [tape_Cut.tells _ _ _ _ hs, tape_Cut.tells _ _ _ _ hs2, Option.bind_some]
          by_cases hm0 : m < 0
          · have c1 : cutT a (l.take n.toNat) false m = (a, l.take n.toNat, false, 9) := by unfold cutT; rw [if_pos hm2, if_pos (.inl hm0)]
            have c2 : cutT a l b m = (a, l, b, 9) := by unfold cutT; rw [if_pos hmay, if_pos (.inl hm0)]
            rw [c1, c2]
            simp
          · have hlt : ((l.take n.toNat).length : Int) = n := by rw [List.length_take]; omega
            have c1 : cutT a (l.take n.toNat) false m = (a, (l.take n.toNat).take m.toNat, false, 0) := by unfold cutT; rw [if_pos hm2, if_neg (by omega)]
            have c2 : cutT a l b m = (a, l.take m.toNat, false, 0) := by unfold cutT; rw [if_pos hmay, if_neg (by omega)]
            have htt : (l.take n.toNat).take m.toNat = l.take m.toNat := by rw [List.take_take, Nat.min_eq_left (by omega)]
            have hlm : ((l.take m.toNat).length : Int) = m := by rw [List.length_take]; omega
            rw [c1, c2, htt]
            simp only [tape_Same.self, Option.bind_some, hlm, tape_May.f, mayT_take hmay m.toNat]
            simp
end Go.Proofs.Ytkhepijngopmbaa.Pure
