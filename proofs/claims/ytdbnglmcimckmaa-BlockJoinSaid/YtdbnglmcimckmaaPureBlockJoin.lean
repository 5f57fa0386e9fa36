/- BlockJoin: a text that fills its blocks and another behind it: the blocks of both are the blocks of the one and of the other: for every two texts. -/
import Derived.Test.YtdbnglmcimckmaaM0
import Derived.Test.YtdbnglmcimckmaaM16
import Derived.Test.YtdbnglmcimckmaaM17
import Derived.Test.YtdbnglmcimckmaaM29
import Derived.Test.YtdbnglmcimckmaaM38
import Derived.Test.YtdbnglmcimckmaaM50
namespace Go.Proofs.Ytdbnglmcimckmaa.Pure
open Go.RowKit Go.Proofs.Ytdbnglmcimckmaa.M Go.Proofs.YtdbnglmcimckmaaW.PrintWords Go.Proofs.YtdbnglmcimckmaaW.PrintLast
theorem bytes_join (s t : ByteArray) : bytesOf (s ++ t) = bytesOf s ++ bytesOf t := by
  simp [bytesOf]
theorem blk_list (s : ByteArray) (i : Nat) : blk s i = ((bytesOf s).drop (512 * i)).take 512 ++ List.replicate (512 - (((bytesOf s).drop (512 * i)).take 512).length) 0 := by
  have h1 : bytesOf (pieceS s i) = ((bytesOf s).drop (512 * i)).take 512 := by simp [bytesOf, pieceS]
  unfold blk
  rw [← bytesOf_length, h1]
theorem cut_join (s t : ByteArray) (m : Nat) (h : s.size = 512 * m) : cutOf (s ++ t) (manyS (s ++ t)) = cutOf s (manyS s) ++ cutOf t (manyS t) := by
  have hsz : (s ++ t).size = s.size + t.size := by simp
  have e1 : manyS s = m := by unfold manyS; omega
  have e2 : manyS (s ++ t) = m + manyS t := by unfold manyS; omega
  rw [e1, e2]
  have hA : (bytesOf s).length = 512 * m := by rw [bytesOf_length, h]
  apply List.ext_getElem
  · simp [cutOf]
  · intro j h1 h2
    have h3 : j < m + manyS t := by simpa [cutOf] using h1
    rcases Nat.lt_or_ge j m with hj | hj
    · rw [List.getElem_append_left (by simp [cutOf]; omega)]
      simp only [cutOf, List.getElem_map, List.getElem_range]
      rw [blk_list, blk_list, bytes_join, List.drop_append_of_le_length (by omega), List.take_append_of_le_length (by rw [List.length_drop]; omega)]
    · rw [List.getElem_append_right (by simp [cutOf]; omega)]
      simp only [cutOf, List.getElem_map, List.getElem_range, List.length_map, List.length_range]
      have : (bytesOf s ++ bytesOf t).drop (512 * j) = (bytesOf t).drop (512 * (j - m)) := by
        rw [List.drop_append, List.drop_eq_nil_of_le (by omega), List.nil_append]
        congr 1
        omega
      rw [blk_list, blk_list, bytes_join, this]
theorem BlockJoin : reelkeeperlaw03_BlockJoin.Pure := by
  intro s t hs ht
  obtain ⟨K, h1⟩ := reelkeeperlaw03_awake.tells
  refine ⟨K + 1, ?_⟩
  unfold reelkeeperlaw03_BlockJoin.f
  rw [h1 _ (by omega), Option.bind_some, if_pos rfl]
  simp only [reelkeeperlaw03_BlockJoin.j0]
  by_cases c1 : (s.size : Int) > 2500
  · rw [if_pos c1, if_pos trivial]
  · rw [if_neg c1]
    by_cases c2 : (t.size : Int) > 2500
    · rw [if_pos c2, if_pos trivial]
    · rw [if_neg c2]
      by_cases c3 : (s.size : Int) % 512 = 0
      · rw [if_neg (by simp [c3])]
        have hsz : (s ++ t).size = s.size + t.size := by simp
        have k1 : block_Cut.f s = some (cutOf s (manyS s)) := by unfold block_Cut.f; rw [if_pos (by omega)]
        have k2 : block_Cut.f t = some (cutOf t (manyS t)) := by unfold block_Cut.f; rw [if_pos (by omega)]
        have k3 : block_Cut.f (s ++ t) = some (cutOf (s ++ t) (manyS (s ++ t))) := by unfold block_Cut.f; rw [if_pos (by omega)]
        have hm1 : manyS s ≤ 5 := by unfold manyS; omega
        have hm2 : manyS t ≤ 5 := by unfold manyS; omega
        have hb := block_Text.back (s ++ t) (by omega)
        rw [hsz, Int.natCast_add] at hb
        rw [if_pos (by omega), k3, Option.bind_some, k1, Option.bind_some, if_pos (by rw [cutOf_length, List.length_nil]; omega), Option.bind_some, k2, Option.bind_some, List.nil_append, if_pos (by rw [cutOf_length, cutOf_length]; omega), ← cut_join s t (s.size / 512) (by omega)]
        unfold reelkeeperref03_Same.f
        rw [Option.bind_some, Option.bind_some, hb, Option.bind_some, if_pos (by simp), if_pos rfl, beq_self_eq_true]
      · rw [if_pos (by simpa [bne_iff_ne] using c3)]
end Go.Proofs.Ytdbnglmcimckmaa.Pure
