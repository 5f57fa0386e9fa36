/- BlockApart: two texts of one length have the same blocks just if they are the same; noughts behind one change nothing, as long as they are in its last block: for every two texts and every int. -/
import Derived.Test.YtdbnglmcimckmaaM0
import Derived.Test.YtdbnglmcimckmaaM13
import Derived.Test.YtdbnglmcimckmaaM14
import Derived.Test.YtdbnglmcimckmaaM18
import Derived.Test.YtdbnglmcimckmaaM24
import Derived.Test.YtdbnglmcimckmaaM34
import Derived.Test.YtdbnglmcimckmaaM41
namespace Go.Proofs.Ytdbnglmcimckmaa.Pure
open Go.RowKit Go.Proofs.Ytdbnglmcimckmaa.M Go.Proofs.YtdbnglmcimckmaaW.PrintWords Go.Proofs.YtdbnglmcimckmaaW.PrintLast
theorem cut_inj {s t : ByteArray} (hl : s.size = t.size) (h : cutOf s (manyS s) = cutOf t (manyS t)) : s = t := by
  apply bytesOf_inj
  have h1 := cutOf_text s
  rw [h, cutOf_text t] at h1
  exact (List.append_inj h1 (by rw [bytesOf_length, bytesOf_length, hl])).1.symm
theorem bytes_join (s t : ByteArray) : bytesOf (s ++ t) = bytesOf s ++ bytesOf t := by
  simp [bytesOf]
theorem zeros_bytes (m : Nat) : bytesOf (strOfNums (List.replicate m 0)) = List.replicate m 0 :=
  bytes_of_nums _ (fun x hx => by rw [(List.mem_replicate.1 hx).2]; omega)
theorem cut_more (s : ByteArray) (m : Nat) : decide (cutOf s (manyS s) = cutOf (s ++ strOfNums (List.replicate m 0)) (manyS (s ++ strOfNums (List.replicate m 0)))) = (manyI (s.size : Int) == manyI ((s.size : Int) + ((strOfNums (List.replicate m 0)).size : Int))) := by
  have hsz : (s ++ strOfNums (List.replicate m 0)).size = s.size + (strOfNums (List.replicate m 0)).size := by simp
  have hz : (strOfNums (List.replicate m 0)).size = m := by rw [strOfNums_size, List.length_replicate]
  have hmm := manyI_many (s ++ strOfNums (List.replicate m 0))
  rw [hsz, Int.natCast_add] at hmm
  rw [manyI_many s, hmm]
  by_cases hq : manyS s = manyS (s ++ strOfNums (List.replicate m 0))
  · rw [← hq, beq_self_eq_true, decide_eq_true]
    unfold cutOf
    apply List.map_congr_left
    intro i _
    apply List.ext_getElem?
    intro j
    rcases Nat.lt_or_ge j 512 with hj | hj
    · rw [blk_get s i j hj, blk_get _ i j hj]
      congr 1
      by_cases c1 : 512 * i + j < s.size
      · rw [if_pos c1, if_pos (by omega), bt_lt _ _ c1, bt_lt _ _ (by omega)]
        have : ∀ (xs ys : List Int) (k : Nat) (h1 : k < ys.length) (h2 : k < xs.length) (zs : List Int), ys = xs ++ zs → xs[k] = ys[k] := by
          intro xs ys k h1 h2 zs he
          subst he
          rw [List.getElem_append_left h2]
        exact this _ _ _ _ _ _ (bytes_join _ _)
      · rw [if_neg c1]
        by_cases c2 : 512 * i + j < (s ++ strOfNums (List.replicate m 0)).size
        · rw [if_pos c2, bt_lt _ _ c2]
          have : ∀ (xs ys : List Int) (k : Nat) (h1 : k < ys.length) (h2 : ¬ k < xs.length), ys = xs ++ List.replicate m 0 → 0 = ys[k] := by
            intro xs ys k h1 h2 he
            subst he
            rw [List.getElem_append_right (by omega), List.getElem_replicate]
          exact this (bytesOf s) _ _ _ (by rw [bytesOf_length]; exact c1) (by rw [bytes_join, zeros_bytes])
        · rw [if_neg c2]
    · rw [List.getElem?_eq_none (by rw [blk_length]; omega), List.getElem?_eq_none (by rw [blk_length]; omega)]
  · rw [decide_eq_false (fun h => hq (by have := congrArg List.length h; rwa [cutOf_length, cutOf_length] at this))]
    symm
    rw [beq_eq_false_iff_ne]
    omega
theorem BlockApart : reelkeeperlaw03_BlockApart.Pure := by
  intro s t n hs ht hw
  have hb := wf_range hw
  obtain ⟨K, h1⟩ := reelkeeperlaw03_awake.tells
  refine ⟨K + 1, ?_⟩
  unfold reelkeeperlaw03_BlockApart.f
  rw [h1 _ (by omega), Option.bind_some, if_pos rfl]
  simp only [reelkeeperlaw03_BlockApart.j0]
  by_cases c1 : (s.size : Int) > 2500
  · rw [if_pos c1, if_pos trivial]
  · rw [if_neg c1]
    by_cases c2 : (t.size : Int) > 2500
    · rw [if_pos c2, if_pos trivial]
    · rw [if_neg c2]
      by_cases c3 : n < 0
      · rw [if_pos c3, if_pos trivial]
      · rw [if_neg c3]
        by_cases c4 : n > 600
        · rw [if_pos (by simpa using c4)]
        · have hz : (strOfNums (List.replicate n.toNat 0)).size = n.toNat := by rw [strOfNums_size, List.length_replicate]
          have hsz : (s ++ strOfNums (List.replicate n.toNat 0)).size = s.size + (strOfNums (List.replicate n.toNat 0)).size := by simp
          have k1 : block_Cut.f s = some (cutOf s (manyS s)) := by unfold block_Cut.f; rw [if_pos (by omega)]
          have k2 : block_Cut.f t = some (cutOf t (manyS t)) := by unfold block_Cut.f; rw [if_pos (by omega)]
          have k3 : block_Cut.f (s ++ strOfNums (List.replicate n.toNat 0)) = some (cutOf (s ++ strOfNums (List.replicate n.toNat 0)) (manyS (s ++ strOfNums (List.replicate n.toNat 0)))) := by unfold block_Cut.f; rw [if_pos (by omega)]
          rw [if_neg (by simpa using c4), k1, Option.bind_some, k2, Option.bind_some]
          unfold block_Same.f
          rw [Option.bind_some, if_pos (by omega), if_pos (by omega), Option.bind_some, if_pos (by omega), Option.bind_some, k3, Option.bind_some, Option.bind_some, cut_more s n.toNat]
          rw [block_Many.tells (s.size : Int) (by omega) (by omega), block_Many.tells ((s.size : Int) + ((strOfNums (List.replicate n.toNat 0)).size : Int)) (by omega) (by omega)]
          simp only [Option.bind_some, beq_self_eq_true]
          by_cases c5 : (s.size : Int) = (t.size : Int)
          · rw [if_pos c5, if_pos]
            by_cases c6 : s = t
            · subst c6; simp
            · have n1 : decide (cutOf s (manyS s) = cutOf t (manyS t)) = false := decide_eq_false (fun h => c6 (cut_inj (by omega) h))
              have n2 : (s.toList == t.toList) = false := by
                rw [beq_eq_false_iff_ne]
                intro h
                apply c6
                apply bytes_ext
                rw [← ByteArray.toList_eq, ← ByteArray.toList_eq, h]
              rw [n1, n2]
              rfl
          · rw [if_neg c5]
end Go.Proofs.Ytdbnglmcimckmaa.Pure
