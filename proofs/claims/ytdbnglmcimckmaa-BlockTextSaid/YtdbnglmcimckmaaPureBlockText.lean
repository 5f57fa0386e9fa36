/- BlockText: blocks tell each number of bytes that takes as many of them and no other; a shorter text is its beginning: for all blocks and every two ints. -/
import Derived.Test.YtdbnglmcimckmaaM0
import Derived.Test.YtdbnglmcimckmaaM4
import Derived.Test.YtdbnglmcimckmaaM6
import Derived.Test.YtdbnglmcimckmaaM10
import Derived.Test.YtdbnglmcimckmaaM16
import Derived.Test.YtdbnglmcimckmaaM17
import Derived.Test.YtdbnglmcimckmaaM29
import Derived.Test.YtdbnglmcimckmaaM30
import Derived.Test.YtdbnglmcimckmaaM31
import Derived.Test.YtdbnglmcimckmaaM48
namespace Go.Proofs.Ytdbnglmcimckmaa.Pure
open Go.RowKit Go.Proofs.Ytdbnglmcimckmaa.M Go.Proofs.YtdbnglmcimckmaaW.PrintWords Go.Proofs.YtdbnglmcimckmaaW.PrintLast
theorem empty_list : (⟨#[]⟩ : ByteArray).toList = [] := by rw [ByteArray.toList_eq]
theorem BlockText (l : List (List Int)) (n m : Int) (ok : RowsOk l) (hw : (Lit.int .i64 n).wf = true) (hw2 : (Lit.int .i64 m).wf = true) : ∃ k, reelkeeperlaw03_BlockText.f k l n m = some true := by
  have hb := wf_range hw
  have hb2 := wf_range hw2
  have hm : l.length ≤ 9223372036854775807 := by have := ok.1; unfold maxLen at this; exact this
  obtain ⟨K1, h1⟩ := reelkeeperlaw03_awake.tells
  obtain ⟨b, ⟨K2, h2⟩, hb3⟩ := reelkeeperlaw03_Few.tells l hm
  refine ⟨K1 + K2 + 1, ?_⟩
  unfold reelkeeperlaw03_BlockText.f
  have g2 : reelkeeperlaw03_Few.f (K1 + K2 + 1) l = some b := h2 _ (by omega)
  rw [h1 _ (by omega), Option.bind_some, g2, Option.bind_some, if_pos rfl]
  simp only [reelkeeperlaw03_BlockText.j0]
  cases b with
  | false => rw [if_pos (by rfl)]
  | true =>
    obtain ⟨hl, _⟩ := hb3 rfl
    have tn := block_Text.tells l n (by omega) (by omega) (by omega)
    have tm := block_Text.tells l m (by omega) (by omega) (by omega)
    rw [if_neg (by decide), block_May.tells]
    cases hmay : (l.all fun b => b.length == 512) with
    | false =>
      rw [hmay, if_neg (by simp)] at tn
      rw [tn, Option.bind_some, tm, Option.bind_some, Option.bind_some, if_neg (by decide), if_neg (by decide), if_neg (by decide), if_pos empty_list]
    | true =>
      have hfl := flat_512 l hmay
      rw [block_Many.tells n (by omega) (by omega)]
      by_cases c1 : n ≥ 0
      · by_cases c2 : manyI n = l.length
        · have hn : n ≤ 512 * (l.length : Int) := by rw [← c2]; unfold manyI; split <;> omega
          have hsz : ((strOfNums (l.flatten.take n.toNat)).size : Int) = n := by rw [strOfNums_size, List.length_take]; omega
          rw [hmay, if_pos ⟨c1, rfl, c2⟩] at tn
          by_cases c3 : 0 ≤ m ∧ manyI m = l.length
          · have hmm : m ≤ 512 * (l.length : Int) := by rw [← c3.2]; unfold manyI; split <;> omega
            have hsz2 : ((strOfNums (l.flatten.take m.toNat)).size : Int) = m := by rw [strOfNums_size, List.length_take]; omega
            rw [hmay, if_pos ⟨c3.1, rfl, c3.2⟩] at tm
            rw [tn, Option.bind_some, tm, Option.bind_some, Option.bind_some, if_pos rfl, if_pos c1, Option.bind_some, if_neg (by simp [c2]), if_pos rfl, if_pos hsz, if_pos rfl]
            by_cases c4 : n > m
            · rw [if_pos c4]
            · rw [if_neg c4, if_pos c1, if_pos (by rw [hsz2]; omega)]
              have : strOfNums (l.flatten.take n.toNat) = (strOfNums (l.flatten.take m.toNat)).extract 0 n.toNat := by
                apply bytes_ext
                rw [ext_data, strOfNums_data, strOfNums_data]
                simp only [List.drop_zero, Nat.sub_zero]
                rw [← List.map_take, List.take_take, Nat.min_eq_left (by omega)]
              rw [this, beq_self_eq_true]
          · rw [if_neg (fun h => c3 ⟨h.1, h.2.2⟩)] at tm
            rw [tn, Option.bind_some, tm, Option.bind_some, Option.bind_some, if_pos rfl, if_pos c1, Option.bind_some, if_neg (by simp [c2]), if_pos rfl, if_pos hsz, if_neg (by decide)]
        · rw [if_neg (fun h => c2 h.2.2)] at tn
          rw [tn, Option.bind_some, tm, Option.bind_some, Option.bind_some, if_pos rfl, if_pos c1, Option.bind_some, if_neg (by simp [c2]), if_neg (by decide), if_pos empty_list]
      · rw [if_neg (fun h => c1 h.1)] at tn
        rw [tn, Option.bind_some, tm, Option.bind_some, Option.bind_some, if_pos rfl, if_neg c1, if_neg (by decide), if_neg (by decide), if_pos empty_list]
end Go.Proofs.Ytdbnglmcimckmaa.Pure
