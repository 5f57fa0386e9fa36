/- Part of a claim: what some functions of the program compute, each with its contract; no condition of its own. Written by a program of this workplace (gen.py, over the print of the kit) and by hand. -/
import Derived.Test.YtdbnglmcimckmaaM0
import Derived.Test.YtdbnglmcimckmaaM4
import Derived.Test.YtdbnglmcimckmaaM5
import Derived.Test.YtdbnglmcimckmaaM7
import Derived.Test.YtdbnglmcimckmaaM8
import Derived.Test.YtdbnglmcimckmaaM9
import Derived.Test.YtdbnglmcimckmaaM10
import Derived.Test.YtdbnglmcimckmaaM12
import Derived.Test.YtdbnglmcimckmaaM13
import Derived.Test.YtdbnglmcimckmaaM14
import Derived.Test.YtdbnglmcimckmaaM15
namespace Go.Proofs.Ytdbnglmcimckmaa.M
open Go.RowKit Go.Proofs.YtdbnglmcimckmaaW.PrintWords Go.Proofs.YtdbnglmcimckmaaW.PrintLast Go.Proofs.YtdbnglmcimckmaaW.PrintMore
attribute [local go_sem] max2_int min2_int max_two min_two max_three min_three max_four min_four   -- for this text's walks alone
set_option linter.unusedVariables false
set_option linter.unusedSimpArgs false

/-! ### The chapter's example -/
theorem reelkeeperlaw03_long.ends (n : Int) (hn : 0 ≤ n) (hn2 : n ≤ 100000) (d : Nat) : ∀ (k : Nat) (i : Int), 0 ≤ i → i ≤ n → n - i = d → d < k →
    reelkeeperlaw03_long.l0 k n (List.replicate i.toNat 1 ++ List.replicate (n - i).toNat 0) i = some (strOfNums (List.replicate n.toNat 1)) := by
  induction d with
  | zero =>
    intro k i h0 h1 hd hk
    obtain ⟨k, rfl⟩ : ∃ m, k = m + 1 := ⟨k - 1, by omega⟩
    simp only [reelkeeperlaw03_long.l0]
    obtain rfl : i = n := by omega
    rw [if_neg (by omega), show (i - i).toNat = 0 by omega, List.replicate_zero, List.append_nil]
  | succ d ih =>
    intro k i h0 h1 hd hk
    obtain ⟨k, rfl⟩ : ∃ m, k = m + 1 := ⟨k - 1, by omega⟩
    simp only [reelkeeperlaw03_long.l0]
    rw [if_pos (by omega), if_pos h0, if_pos (by rw [List.length_append, List.length_replicate, List.length_replicate]; omega), wrap_id (by omega) (by omega)]
    have h2 : (List.replicate i.toNat (1 : Int) ++ List.replicate (n - i).toNat 0).set i.toNat 1 = List.replicate (i + 1).toNat 1 ++ List.replicate (n - (i + 1)).toNat 0 := by
      rw [List.set_append_right _ _ (by rw [List.length_replicate]; omega), List.length_replicate, show i.toNat - i.toNat = 0 by omega, show (n - i).toNat = (n - (i + 1)).toNat + 1 by omega, List.replicate_succ, List.set_cons_zero, show (i + 1).toNat = i.toNat + 1 by omega, List.replicate_succ', List.append_assoc]
      rfl
    rw [h2]
    exact ih k (i + 1) (by omega) (by omega) (by omega) (by omega)
theorem reelkeeperlaw03_long.tells (n : Int) (hn : 0 ≤ n) (hn2 : n ≤ 100000) : Ev (fun k => reelkeeperlaw03_long.f k n) (strOfNums (List.replicate n.toNat 1)) := by
  refine Ev.of (fun k => reelkeeperlaw03_long.mono n k) (k := n.toNat + 1) ?_
  show reelkeeperlaw03_long.f (n.toNat + 1) n = _
  unfold reelkeeperlaw03_long.f
  rw [if_pos hn, if_pos (by omega)]
  have := reelkeeperlaw03_long.ends n hn hn2 n.toNat (n.toNat + 1) 0 (by omega) (by omega) (by omega) (by omega)
  simpa using this
theorem rd_get {l : List Int} {i : Nat} {v : Int} (h : l[i]? = some v) : rd l (i : Int) = v := by
  simp [rd, List.getD_eq_getElem?_getD, h]
theorem cutOf_get (s : ByteArray) (n i : Nat) (h : i < n) : rd_L1 (cutOf s n) (i : Int) = blk s i := by
  rw [rd_L1_at _ _ (by rw [cutOf_length]; omega)]
  simp [cutOf]
theorem awake_ones (n j : Nat) (hj : j < n) : bt (strOfNums (List.replicate n 1)) (j : Int) = 1 := by
  rw [bt_lt _ _ (by rw [strOfNums_size, List.length_replicate]; exact hj)]
  have h0 : ∀ x ∈ bytesOf (strOfNums (List.replicate n 1)), x = 1 := by
    rw [bytes_of_nums _ (fun x hx => by rw [(List.mem_replicate.1 hx).2]; omega)]
    exact fun x hx => (List.mem_replicate.1 hx).2
  exact h0 _ (List.getElem_mem _)
theorem reelkeeperlaw03_awake.tells : Ev reelkeeperlaw03_awake.f true := by
  obtain ⟨K1, h1⟩ := reelkeeperlaw03_long.tells 513 (by omega) (by omega)
  obtain ⟨K2, h2⟩ := block_Zeros.ev 2
  refine ⟨K1 + K2, fun k hk => ?_⟩
  have g1 : reelkeeperlaw03_long.f k 513 = some (strOfNums (List.replicate 513 1)) := h1 k (by omega)
  have g2 : block_Zeros.f k 2 = some (zerosOf 2) := h2 k (by omega)
  have hsz : (strOfNums (List.replicate 513 1)).size = 513 := by rw [strOfNums_size, List.length_replicate]
  have hm : manyS (strOfNums (List.replicate 513 1)) = 2 := by unfold manyS; rw [hsz]
  have ha := awake_ones 513
  have hbk := block_Text.back (strOfNums (List.replicate 513 1)) (by rw [hsz]; omega)
  generalize strOfNums (List.replicate 513 1) = s at g1 hsz hm ha hbk
  rw [hsz, hm] at hbk
  have e0 : rd (blk s 1) 0 = 1 := by
    have h3 := blk_get s 1 0 (by omega)
    rw [hsz, if_pos (by omega), ha _ (by omega)] at h3
    exact rd_get (i := 0) h3
  have e1 : rd (blk s 1) 1 = 0 := by
    have h3 := blk_get s 1 1 (by omega)
    rw [hsz, if_neg (by omega)] at h3
    exact rd_get (i := 1) h3
  have hl : ((blk s 1).length : Int) = 512 := by rw [blk_length]; rfl
  have hc : block_Cut.f s = some (cutOf s 2) := by unfold block_Cut.f; rw [if_pos (by omega), hm]
  have hg : rd_L1 (cutOf s 2) 1 = blk s 1 := cutOf_get s 2 1 (by omega)
  unfold reelkeeperlaw03_awake.f
  rw [g1, Option.bind_some, hc, Option.bind_some, show ((513 : Nat) : Int) = 513 from rfl] at *
  rw [hbk, Option.bind_some, block_Many.tells 513 (by omega) (by omega), Option.bind_some, if_pos (by decide), if_pos (by rw [cutOf_length]; rfl), block_May.tells, Option.bind_some, if_pos (cutOf_may s 2), if_pos (by rw [cutOf_length]; decide), hg, hl, if_pos (by decide), e0, if_pos rfl, if_pos (by decide), e1, if_pos rfl, if_pos rfl, g1, Option.bind_some, if_pos rfl, block_Zero.tells, Option.bind_some, if_pos (by rfl), g2, Option.bind_some, if_pos (by decide)]
  unfold block_Same.f
  rw [Option.bind_some, decide_eq_true rfl]

end Go.Proofs.Ytdbnglmcimckmaa.M
