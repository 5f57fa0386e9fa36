/- TapeFills: as many records are written as go in: all of them, or up to the tape's end; cut where it was, a tape is as it was: for every tape and all records. -/
import Derived.Test.YtkhepijngopmbaaM0
import Derived.Test.YtkhepijngopmbaaM5
import Derived.Test.YtkhepijngopmbaaM6
import Derived.Test.YtkhepijngopmbaaM9
import Derived.Test.YtkhepijngopmbaaM13
import Derived.Test.YtkhepijngopmbaaM17
import Derived.Test.YtkhepijngopmbaaM18
import Derived.Test.YtkhepijngopmbaaM19
import Derived.Test.YtkhepijngopmbaaM20
import Derived.Test.YtkhepijngopmbaaM27
import Derived.Test.YtkhepijngopmbaaM28
namespace Go.Proofs.Ytkhepijngopmbaa.Pure
open Go.RowKit Go.Proofs.Ytkhepijngopmbaa.M Go.Proofs.YtkhepijngopmbaaW.PrintWords Go.Proofs.YtkhepijngopmbaaW.PrintLast
theorem TapeFills (a : Int) (l : List (List Int)) (b : Bool) (rs : List (List Int)) (ok : TapeOk a l) (ok2 : RowsOk rs) : ∃ q, reelkeeperlaw12_TapeFills.f q a l b rs = some true := by
  have hm : l.length ≤ 9223372036854775807 := by have := ok.2.1; unfold maxLen at this; exact this
  have hm2 : rs.length ≤ 9223372036854775807 := by have := ok2.1; unfold maxLen at this; exact this
  obtain ⟨t, ⟨K1, h1⟩, hb⟩ := reelkeeperlaw11_FewRecs.tells l hm
  obtain ⟨t2, ⟨K2, h2⟩, hb2⟩ := reelkeeperlaw11_FewRecs.tells rs hm2
  refine ⟨K1 + K2 + 2, ?_⟩
  unfold reelkeeperlaw12_TapeFills.f
  have g1 : reelkeeperlaw11_FewRecs.f (K1 + K2 + 2) l = some t := h1 _ (by omega)
  have g2 : reelkeeperlaw11_FewRecs.f (K1 + K2 + 2) rs = some t2 := h2 _ (by omega)
  rw [reelkeeperlaw12_awake.tells, Option.bind_some, g1, Option.bind_some, g2, Option.bind_some, if_pos rfl]
  cases t with
  | false => rw [if_neg (by decide)]; simp only [reelkeeperlaw12_TapeFills.j0]; rw [if_pos trivial]
  | true =>
    rw [if_pos rfl]
    cases t2 with
    | false => rw [if_neg (by decide)]; simp only [reelkeeperlaw12_TapeFills.j0]; rw [if_pos trivial]
    | true =>
      obtain ⟨hl, hx⟩ := hb rfl
      obtain ⟨hl2, hx2⟩ := hb2 rfl
      have hs := sized_few hl hx
      have hs2 := sized_few hl2 hx2
      rw [if_pos rfl]
      unfold tape_May.f
      rw [Option.bind_some]
      cases hmay : mayT a l with
      | false => rw [if_neg (by decide)]; simp only [reelkeeperlaw12_TapeFills.j0]; rw [if_pos trivial]
      | true =>
        rw [if_pos rfl]
        simp only [reelkeeperlaw12_TapeFills.j0]
        cases b with
        | true => rw [if_pos rfl]
        | false =>
          rw [if_neg (by decide), tape_Fill.tells _ _ _ _ hs hs2, Option.bind_some]
          have hle := fillN_le a false rs l.length
          have htold := fillN_told a false rs l.length
          have hmy := fillN_may a false rs l hmay
          have hf : fillT a l false rs = (a, l ++ rs.take (fillN a false l.length rs).1, false, ((fillN a false l.length rs).1 : Int), (fillN a false l.length rs).2) := by unfold fillT; rw [if_pos hmay]
          rw [hf]
          obtain ⟨n, hn⟩ : ∃ n, (fillN a false l.length rs).1 = n := ⟨_, rfl⟩
          obtain ⟨e, he⟩ : ∃ e, (fillN a false l.length rs).2 = e := ⟨_, rfl⟩
          rw [hn, he] at htold
          rw [hn] at hle hmy
          rw [hn, he]
          dsimp only
          have hlen : (l ++ rs.take n).length = l.length + n := by rw [List.length_append, List.length_take]; omega
          have hwr : wrap64 ((l.length : Int) + (n : Int)) = ((l.length + n : Nat) : Int) := by unfold wrap64; omega
          have hss : sized (l ++ rs.take n) := sized_join hs (sized_take hs2 n) (by rw [List.length_take]; omega)
          have key : ∀ q, reelkeeperlaw12_TapeFills.j1 (q + 1) rs (n : Int) e false a l false a (l ++ rs.take n) false = some true := by
            intro q
            simp only [reelkeeperlaw12_TapeFills.j1]
            have hc : cutT a (l ++ rs.take n) false (l.length : Int) = (a, l, false, 0) := by
              unfold cutT
              rw [if_pos hmy, if_neg (by rw [hlen]; omega), Int.toNat_natCast, List.take_left]
            rw [if_neg (by decide), if_pos (by omega), if_pos (by rw [hlen]; omega), if_pos (by omega), if_pos (by omega), Int.toNat_natCast, Int.toNat_natCast, List.drop_left, same_rows, Option.bind_some, tape_Cut.tells _ _ _ _ hss, hc, Option.bind_some, if_pos rfl, if_pos rfl, tape_Same.self, Option.bind_some, if_pos rfl]
            rcases htold with ⟨e0, _⟩ | ⟨e1, _⟩ | ⟨e8, _⟩
            · rw [if_pos e0]
            · rw [if_neg (by omega), if_neg (by omega), e1]; rfl
            · rw [if_neg (by omega), if_pos e8]
          rw [if_neg (by omega), if_neg (by omega), if_pos (by rw [hlen]; exact hwr.symm)]
          have hne : ((e == 0) != ((n : Int) == (rs.length : Int))) = false := by
            rcases htold with ⟨e0, n0⟩ | ⟨e1, n1⟩ | ⟨e8, n8, _⟩
            · rw [e0, n0]; simp
            · rw [e1, beq_eq_false_iff_ne.2 (by omega : (n : Int) ≠ (rs.length : Int))]; rfl
            · rw [e8, beq_eq_false_iff_ne.2 (by omega : (n : Int) ≠ (rs.length : Int))]; rfl
          rw [if_neg (by rw [hne]; decide)]
          by_cases e8 : e = 8
          · rw [if_pos e8]
            have hcap : (((l ++ rs.take n).length : Int) != a) = false := by
              rcases htold with ⟨e0, _⟩ | ⟨e1, _⟩ | ⟨_, _, c⟩
              · omega
              · omega
              · have c2 := c.resolve_left (by decide)
                rw [hlen, bne_eq_false_iff_eq]
                exact c2
            rw [hcap]
            exact key _
          · rw [if_neg e8]
            exact key _
end Go.Proofs.Ytkhepijngopmbaa.Pure
