/- TapeParts: filled with records, and then with others, a tape is as if filled with both, if the first ones went in: for every tape and every two lists of records. -/
import Derived.Test.YtkhepijngopmbaaM0
import Derived.Test.YtkhepijngopmbaaM5
import Derived.Test.YtkhepijngopmbaaM6
import Derived.Test.YtkhepijngopmbaaM9
import Derived.Test.YtkhepijngopmbaaM13
import Derived.Test.YtkhepijngopmbaaM17
import Derived.Test.YtkhepijngopmbaaM18
import Derived.Test.YtkhepijngopmbaaM19
import Derived.Test.YtkhepijngopmbaaM20
import Derived.Test.YtkhepijngopmbaaM23
import Derived.Test.YtkhepijngopmbaaM24
import Derived.Test.YtkhepijngopmbaaM25
namespace Go.Proofs.Ytkhepijngopmbaa.Pure
open Go.RowKit Go.Proofs.Ytkhepijngopmbaa.M Go.Proofs.YtkhepijngopmbaaW.PrintWords Go.Proofs.YtkhepijngopmbaaW.PrintLast
theorem TapeParts (a : Int) (l : List (List Int)) (b : Bool) (p : List (List Int)) (s : List (List Int)) (ok : TapeOk a l) (ok2 : RowsOk p) (ok3 : RowsOk s) : ∃ q, reelkeeperlaw12_TapeParts.f q a l b p s = some true := by
  have hm : l.length ≤ 9223372036854775807 := by have := ok.2.1; unfold maxLen at this; exact this
  have hm2 : p.length ≤ 9223372036854775807 := by have := ok2.1; unfold maxLen at this; exact this
  have hm3 : s.length ≤ 9223372036854775807 := by have := ok3.1; unfold maxLen at this; exact this
  obtain ⟨t, ⟨K1, h1⟩, hb⟩ := reelkeeperlaw11_FewRecs.tells l hm
  obtain ⟨t2, ⟨K2, h2⟩, hb2⟩ := reelkeeperlaw11_FewRecs.tells p hm2
  obtain ⟨t3, ⟨K3, h3⟩, hb3⟩ := reelkeeperlaw11_FewRecs.tells s hm3
  refine ⟨K1 + K2 + K3 + 1, ?_⟩
  have g1 : reelkeeperlaw11_FewRecs.f (K1 + K2 + K3 + 1) l = some t := h1 _ (by omega)
  have g2 : reelkeeperlaw11_FewRecs.f (K1 + K2 + K3 + 1) p = some t2 := h2 _ (by omega)
  have g3 : reelkeeperlaw11_FewRecs.f (K1 + K2 + K3 + 1) s = some t3 := h3 _ (by omega)
  unfold reelkeeperlaw12_TapeParts.f
  by_cases hall : t = true ∧ t2 = true ∧ t3 = true
  case neg =>
    have early : reelkeeperlaw12_TapeParts_v0.f (K1 + K2 + K3 + 1) a l b p s = some true := by
      unfold reelkeeperlaw12_TapeParts_v0.f
      rw [reelkeeperlaw12_awake.tells, Option.bind_some, g1, Option.bind_some, g2, Option.bind_some, g3, Option.bind_some, if_pos rfl]
      simp only [reelkeeperlaw12_TapeParts_v0.j0]
      cases t with
      | false => rw [if_neg (by decide), if_pos trivial]
      | true =>
        rw [if_pos rfl]
        cases t2 with
        | false => rw [if_neg (by decide), if_pos trivial]
        | true =>
          rw [if_pos rfl]
          cases t3 with
          | false => rw [if_pos (by rfl)]
          | true => exact absurd ⟨rfl, rfl, rfl⟩ hall
    rw [early]
    rfl
  obtain ⟨rfl, rfl, rfl⟩ := hall
  obtain ⟨hl, hx⟩ := hb rfl
  obtain ⟨hl2, hx2⟩ := hb2 rfl
  obtain ⟨hl3, hx3⟩ := hb3 rfl
  have hs := sized_few hl hx
  have hs2 := sized_few hl2 hx2
  have hs3 := sized_few hl3 hx3
  have hsj : sized (p ++ s) := sized_join hs2 hs3 (by omega)
  have hsx : sized (fillT a l b p).2.1 := by
    unfold fillT
    by_cases hmay : mayT a l = true
    · rw [if_pos hmay]; exact sized_join hs (sized_take hs2 _) (by rw [List.length_take]; omega)
    · rw [if_neg hmay]; exact hs
  by_cases he : (fillT a l b p).2.2.2.2 = 0
  · -- the first ones went in
    have main : reelkeeperlaw12_TapeParts_v0.f (K1 + K2 + K3 + 1) a l b p s = some true := by
      unfold reelkeeperlaw12_TapeParts_v0.f
      rw [reelkeeperlaw12_awake.tells, Option.bind_some, g1, Option.bind_some, g2, Option.bind_some, g3, Option.bind_some, if_pos rfl, if_pos rfl, if_pos rfl]
      simp only [reelkeeperlaw12_TapeParts_v0.j0, Bool.not_true]
      rw [if_neg (by decide), tape_Fill.tells _ _ _ _ hs hs2, Option.bind_some, tape_Fill.tells _ _ _ _ hsx hs3, Option.bind_some, if_pos (by simp only [List.length_nil]; omega), List.nil_append, Option.bind_some, if_pos (by omega), tape_Fill.tells _ _ _ _ hs hsj, Option.bind_some, if_pos he]
      have hmay : mayT a l = true := by
        by_cases hmay : mayT a l = true
        · exact hmay
        · unfold fillT at he
          rw [if_neg hmay] at he
          exact absurd (show (1 : Int) = 0 from he) (by decide)
      have hfx : fillT a l b p = (a, l ++ p.take (fillN a b l.length p).1, b, ((fillN a b l.length p).1 : Int), (fillN a b l.length p).2) := by unfold fillT; rw [if_pos hmay]
      rw [hfx] at he
      have he2 : (fillN a b l.length p).2 = 0 := he
      have hn : (fillN a b l.length p).1 = p.length := by
        rcases fillN_told a b p l.length with ⟨_, n⟩ | ⟨e1, _⟩ | ⟨e8, _⟩
        · exact n
        · omega
        · omega
      have hmy := fillN_may a b p l hmay
      rw [hn, List.take_length] at hmy
      rw [hn, List.take_length, he2] at hfx
      have hlen : (l ++ p).length = l.length + p.length := List.length_append
      have hfy : fillT a (l ++ p) b s = (a, l ++ p ++ s.take (fillN a b (l.length + p.length) s).1, b, ((fillN a b (l.length + p.length) s).1 : Int), (fillN a b (l.length + p.length) s).2) := by unfold fillT; rw [if_pos hmy, hlen]
      have hon := fillN_on a b p s l.length he2
      have hfz : fillT a l b (p ++ s) = (a, l ++ (p ++ s).take (p.length + (fillN a b (l.length + p.length) s).1), b, ((p.length + (fillN a b (l.length + p.length) s).1 : Nat) : Int), (fillN a b (l.length + p.length) s).2) := by unfold fillT; rw [if_pos hmay, hon]
      have hle := fillN_le a b s (l.length + p.length)
      rw [hfx]
      dsimp only
      rw [hfy, hfz]
      dsimp only
      have htk : l ++ (p ++ s).take (p.length + (fillN a b (l.length + p.length) s).1) = l ++ p ++ s.take (fillN a b (l.length + p.length) s).1 := by rw [List.take_append, List.take_of_length_le (by omega), Nat.add_sub_cancel_left, List.append_assoc]
      have hwr : wrap64 ((p.length : Int) + ((fillN a b (l.length + p.length) s).1 : Int)) = ((p.length + (fillN a b (l.length + p.length) s).1 : Nat) : Int) := by unfold wrap64; omega
      rw [htk, tape_Same.self, Option.bind_some, if_pos rfl, if_pos hwr.symm, beq_self_eq_true]
    rw [main]
    rfl
  · -- they did not
    have none0 : reelkeeperlaw12_TapeParts_v0.f (K1 + K2 + K3 + 1) a l b p s = none := by
      unfold reelkeeperlaw12_TapeParts_v0.f
      rw [reelkeeperlaw12_awake.tells, Option.bind_some, g1, Option.bind_some, g2, Option.bind_some, g3, Option.bind_some, if_pos rfl, if_pos rfl, if_pos rfl]
      simp only [reelkeeperlaw12_TapeParts_v0.j0, Bool.not_true]
      rw [if_neg (by decide), tape_Fill.tells _ _ _ _ hs hs2, Option.bind_some, tape_Fill.tells _ _ _ _ hsx hs3, Option.bind_some, if_pos (by simp only [List.length_nil]; omega), List.nil_append, Option.bind_some, if_pos (by omega), tape_Fill.tells _ _ _ _ hs hsj, Option.bind_some, if_neg he]
    have main : reelkeeperlaw12_TapeParts_v1.f (K1 + K2 + K3 + 1) a l b p s = some true := by
      unfold reelkeeperlaw12_TapeParts_v1.f
      rw [reelkeeperlaw12_awake.tells, Option.bind_some, g1, Option.bind_some, g2, Option.bind_some, g3, Option.bind_some, if_pos rfl, if_pos rfl, if_pos rfl]
      simp only [reelkeeperlaw12_TapeParts_v1.j0, Bool.not_true]
      rw [if_neg (by decide), tape_Fill.tells _ _ _ _ hs hs2, Option.bind_some, tape_Fill.tells _ _ _ _ hsx hs3, Option.bind_some, if_pos (by simp only [List.length_nil]; omega), List.nil_append, Option.bind_some, if_pos (by omega), tape_Fill.tells _ _ _ _ hs hsj, Option.bind_some, if_neg he]
      have hsame : fillT a l b (p ++ s) = fillT a l b p := by
        unfold fillT at he ⊢
        by_cases hmay : mayT a l = true
        · rw [if_pos hmay] at he
          have he2 : (fillN a b l.length p).2 ≠ 0 := he
          rw [if_pos hmay, if_pos hmay, fillN_stop a b p s l.length he2, List.take_append_of_le_length (fillN_le a b p l.length)]
        · rw [if_neg hmay, if_neg hmay]
      rw [hsame, tape_Same.self, Option.bind_some, if_pos rfl, if_pos rfl, beq_self_eq_true]
    rw [none0, main]
    rfl
end Go.Proofs.Ytkhepijngopmbaa.Pure
