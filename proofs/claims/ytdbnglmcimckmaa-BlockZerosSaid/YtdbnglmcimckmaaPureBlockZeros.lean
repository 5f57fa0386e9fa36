/- BlockZeros: blocks of noughts may be and are noughts, each, and are the blocks of a text of noughts: for every two ints. -/
import Derived.Test.YtdbnglmcimckmaaM0
import Derived.Test.YtdbnglmcimckmaaM13
import Derived.Test.YtdbnglmcimckmaaM14
import Derived.Test.YtdbnglmcimckmaaM15
import Derived.Test.YtdbnglmcimckmaaM18
import Derived.Test.YtdbnglmcimckmaaM24
import Derived.Test.YtdbnglmcimckmaaM34
import Derived.Test.YtdbnglmcimckmaaM39
namespace Go.Proofs.Ytdbnglmcimckmaa.Pure
open Go.RowKit Go.Proofs.Ytdbnglmcimckmaa.M Go.Proofs.YtdbnglmcimckmaaW.PrintWords Go.Proofs.YtdbnglmcimckmaaW.PrintLast
theorem zeros_bytes (m : Nat) : bytesOf (strOfNums (List.replicate m 0)) = List.replicate m 0 :=
  bytes_of_nums _ (fun x hx => by rw [(List.mem_replicate.1 hx).2]; omega)
theorem cut_zeros (m : Nat) : cutOf (strOfNums (List.replicate (512 * m) 0)) (manyS (strOfNums (List.replicate (512 * m) 0))) = List.replicate m (List.replicate 512 0) := by
  have hsz : (strOfNums (List.replicate (512 * m) 0)).size = 512 * m := by rw [strOfNums_size, List.length_replicate]
  have hm : manyS (strOfNums (List.replicate (512 * m) 0)) = m := by unfold manyS; rw [hsz]; omega
  rw [hm]
  apply List.ext_getElem
  · rw [cutOf_length, List.length_replicate]
  · intro i h1 h2
    rw [cutOf_length] at h1
    simp only [cutOf, List.getElem_map, List.getElem_range, List.getElem_replicate]
    apply List.ext_getElem?
    intro j
    rcases Nat.lt_or_ge j 512 with hj | hj
    · rw [blk_get _ i j hj, hsz, if_pos (by omega), List.getElem?_replicate, if_pos hj]
      congr 1
      rw [bt_lt _ _ (by rw [hsz]; omega)]
      have h0 : ∀ x ∈ bytesOf (strOfNums (List.replicate (512 * m) 0)), x = 0 := by
        rw [zeros_bytes]
        exact fun x hx => (List.mem_replicate.1 hx).2
      exact h0 _ (List.getElem_mem _)
    · rw [List.getElem?_eq_none (by rw [blk_length]; omega), List.getElem?_eq_none (by rw [List.length_replicate]; omega)]
theorem BlockZeros : reelkeeperlaw03_BlockZeros.Pure := by
  intro n i hw hw2
  have hb := wf_range hw
  have hb2 := wf_range hw2
  obtain ⟨K1, h1⟩ := reelkeeperlaw03_awake.tells
  obtain ⟨K2, h2⟩ := block_Zeros.ev n
  obtain ⟨K3, h3⟩ := block_Zeros.ev 0
  obtain ⟨K4, h4⟩ := block_Zeros.ev 401
  refine ⟨K1 + K2 + K3 + K4 + 1, ?_⟩
  unfold reelkeeperlaw03_BlockZeros.f
  rw [h1 _ (by omega), Option.bind_some, if_pos rfl]
  simp only [reelkeeperlaw03_BlockZeros.j0]
  have g2 : block_Zeros.f (K1 + K2 + K3 + K4) n = some (zerosOf n) := h2 _ (by omega)
  have g3 : block_Zeros.f (K1 + K2 + K3 + K4) 0 = some (zerosOf 0) := h3 _ (by omega)
  have g4 : block_Zeros.f (K1 + K2 + K3 + K4) 401 = some (zerosOf 401) := h4 _ (by omega)
  have e3 : zerosOf 0 = [] := by unfold zerosOf; rw [if_pos (by omega)]
  have e4 : zerosOf 401 = [] := by unfold zerosOf; rw [if_pos (by omega)]
  rw [e3] at g3
  rw [e4] at g4
  by_cases c1 : n < 1
  · rw [if_pos c1, if_pos trivial]
  · rw [if_neg c1]
    by_cases c2 : n > 60
    · rw [if_pos (by simpa using c2)]
    · rw [if_neg (by simpa using c2), g2, Option.bind_some, wrap_id (x := 512 * n) (by omega) (by omega), if_pos (by omega), if_pos (by omega)]
      have e2 : zerosOf n = List.replicate n.toNat (List.replicate 512 0) := by unfold zerosOf; rw [if_neg (by omega)]
      have hsz : (strOfNums (List.replicate (512 * n).toNat 0)).size ≤ 1000000 := by rw [strOfNums_size, List.length_replicate]; omega
      have hc : block_Cut.f (strOfNums (List.replicate (512 * n).toNat 0)) = some (zerosOf n) := by
        unfold block_Cut.f
        rw [if_pos hsz, show (512 * n).toNat = 512 * n.toNat by omega, cut_zeros, e2]
      have hlen : (zerosOf n).length = n.toNat := by rw [e2, List.length_replicate]
      have hmay : ((zerosOf n).all fun b => b.length == 512) = true := by
        rw [e2, List.all_eq_true]
        intro x hx
        rw [(List.mem_replicate.1 hx).2, List.length_replicate]
        rfl
      rw [hc, Option.bind_some, if_pos (by rw [hlen]; omega), block_May.tells, Option.bind_some, if_pos hmay]
      unfold block_Same.f
      rw [Option.bind_some, decide_eq_true rfl, if_pos rfl, g3, Option.bind_some, g4, Option.bind_some]
      have z0 : (([] : List (List Int)).length : Int) = 0 := rfl
      rw [z0, if_pos rfl]
      by_cases c3 : i < 0
      · rw [if_pos c3]; rfl
      · rw [if_neg c3]
        by_cases c4 : i ≥ n
        · rw [if_pos c4]; rfl
        · have hz : rd_L1 (zerosOf n) i = List.replicate 512 0 := by
            rw [rd_L1_at _ _ (by rw [hlen]; omega)]
            have h0 : ∀ x ∈ zerosOf n, x = List.replicate 512 0 := by
              rw [e2]
              exact fun x hx => (List.mem_replicate.1 hx).2
            exact h0 _ (List.getElem_mem _)
          have hzz : ((List.replicate 512 (0 : Int)).all fun b => b == 0) = true := by
            rw [List.all_eq_true]
            intro x hx
            rw [(List.mem_replicate.1 hx).2]
            rfl
          rw [if_neg c4, if_pos (by omega), if_pos (by rw [hlen]; omega), hz, block_Zero.tells, Option.bind_some, hzz, if_pos rfl]
          rfl
end Go.Proofs.Ytdbnglmcimckmaa.Pure
