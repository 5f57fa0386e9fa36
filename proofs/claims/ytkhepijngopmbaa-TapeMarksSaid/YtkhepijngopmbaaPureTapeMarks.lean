/- TapeMarks: on a tape that is closed nothing is written, nor is it closed again; cut it is open, and takes as many as there is room for: for every tape and every int. -/
import Derived.Test.YtkhepijngopmbaaM0
import Derived.Test.YtkhepijngopmbaaM5
import Derived.Test.YtkhepijngopmbaaM6
import Derived.Test.YtkhepijngopmbaaM10
import Derived.Test.YtkhepijngopmbaaM15
import Derived.Test.YtkhepijngopmbaaM17
import Derived.Test.YtkhepijngopmbaaM19
import Derived.Test.YtkhepijngopmbaaM20
import Derived.Test.YtkhepijngopmbaaM26
import Derived.Test.YtkhepijngopmbaaM28
namespace Go.Proofs.Ytkhepijngopmbaa.Pure
open Go.RowKit Go.Proofs.Ytkhepijngopmbaa.M Go.Proofs.YtkhepijngopmbaaW.PrintWords Go.Proofs.YtkhepijngopmbaaW.PrintLast
theorem TapeMarks (a : Int) (l : List (List Int)) (b : Bool) (n : Int) (ok : TapeOk a l) (_hw : (Lit.int .i64 n).wf = true) : ∃ q, reelkeeperlaw12_TapeMarks.f q a l b n = some true := by
  have hm : l.length ≤ 9223372036854775807 := by have := ok.2.1; unfold maxLen at this; exact this
  obtain ⟨t, ⟨K1, h1⟩, hb⟩ := reelkeeperlaw11_FewRecs.tells l hm
  refine ⟨K1 + 2, ?_⟩
  unfold reelkeeperlaw12_TapeMarks.f
  have g1 : reelkeeperlaw11_FewRecs.f (K1 + 2) l = some t := h1 _ (by omega)
  rw [reelkeeperlaw12_awake.tells, Option.bind_some, g1, Option.bind_some, if_pos rfl]
  cases t with
  | false => rw [if_neg (by decide)]; simp only [reelkeeperlaw12_TapeMarks.j0]; rw [if_pos trivial]
  | true =>
    obtain ⟨hl, hx⟩ := hb rfl
    have hs := sized_few hl hx
    rw [if_pos rfl]
    unfold tape_May.f
    rw [Option.bind_some]
    cases hmay : mayT a l with
    | false => rw [if_neg (by decide)]; simp only [reelkeeperlaw12_TapeMarks.j0]; rw [if_pos trivial]
    | true =>
      rw [if_pos rfl]
      simp only [reelkeeperlaw12_TapeMarks.j0]
      cases b with
      | true => rw [if_pos rfl]
      | false =>
        rw [if_neg (by decide)]
        have hz := zeros_may
        have hzl : (List.replicate 512 (0 : Int)).length = 512 := List.length_replicate
        obtain ⟨z, hzz⟩ : ∃ z, List.replicate 512 (0 : Int) = z := ⟨_, rfl⟩
        rw [hzz] at hz hzl
        obtain ⟨p0, p1, p2, p3⟩ := mayT_parts hmay
        have c1 : closeT a l false = (a, l, true, 0) := by unfold closeT; rw [if_pos hmay, if_neg (by decide)]
        have c2 : closeT a l true = (a, l, true, 8) := by unfold closeT; rw [if_pos hmay, if_pos rfl]
        have w1 : writeT a l true z = (a, l, true, 8) := by unfold writeT; rw [if_pos hmay, if_pos hz, if_pos (.inl rfl)]
        rw [tape_Close.tells _ _ _ hs, c1, Option.bind_some, if_pos (by decide), hzz]
        dsimp only
        rw [tape_Write.tells _ _ _ _ hs (by omega), w1, Option.bind_some, tape_Close.tells _ _ _ hs, c2, Option.bind_some, tape_Cut.tells _ _ _ _ hs, Option.bind_some]
        dsimp only
        rw [if_pos rfl, if_pos rfl, if_pos rfl]
        by_cases hn : n < 0 ∨ (l.length : Int) < n
        · have hc : cutT a l true n = (a, l, true, 9) := by unfold cutT; rw [if_pos hmay, if_pos hn]
          rw [hc]
          dsimp only
          have key : reelkeeperlaw12_TapeMarks.j1 (K1 + 1) n 9 false a l false a l true = some true := by
            simp only [reelkeeperlaw12_TapeMarks.j1]
            rw [if_neg (by decide), if_pos (by decide), hzz, tape_Write.tells _ _ _ _ hs (by omega), Option.bind_some, if_neg (by decide)]
          by_cases h0 : n ≥ 0
          · rw [if_pos h0, decide_eq_false (by omega)]
            exact key
          · rw [if_neg h0]
            exact key
        · have hc : cutT a l true n = (a, l.take n.toNat, false, 0) := by unfold cutT; rw [if_pos hmay, if_neg hn]
          rw [hc]
          dsimp only
          have hlen : ((l.take n.toNat).length : Int) = n := by rw [List.length_take]; omega
          have hm2 := mayT_take hmay n.toNat
          rw [if_pos (by omega), decide_eq_true (by omega)]
          show reelkeeperlaw12_TapeMarks.j1 (K1 + 1) n 0 false a l false a (l.take n.toNat) false = some true
          simp only [reelkeeperlaw12_TapeMarks.j1]
          rw [if_neg (by decide), if_pos (by decide), hzz, tape_Write.tells _ _ _ _ (sized_take hs _) (by omega), Option.bind_some, if_pos trivial, if_neg (by decide), if_pos hlen]
          by_cases hna : n = a
          · have w2 : (writeT a (l.take n.toNat) false z).2.2.2 = 8 := by unfold writeT; rw [if_pos hm2, if_pos hz, if_pos (.inr (by rw [hlen, hna]))]
            rw [w2, decide_eq_false (by omega)]
            rfl
          · have w2 : (writeT a (l.take n.toNat) false z).2.2.2 = 0 := by unfold writeT; rw [if_pos hm2, if_pos hz, if_neg (by rw [hlen]; simp [hna])]
            rw [w2, decide_eq_true (by omega)]
            rfl
end Go.Proofs.Ytkhepijngopmbaa.Pure
