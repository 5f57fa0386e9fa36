/- Part of a claim: what some functions of the program compute, each with its contract; no condition of its own. Written by a program of this workplace (gen.py, over the print of the kit) and by hand. -/
import Derived.Test.YtdbnglmcimckmaaM0
import Derived.Test.YtdbnglmcimckmaaM4
import Derived.Test.YtdbnglmcimckmaaM5
import Derived.Test.YtdbnglmcimckmaaM6
import Derived.Test.YtdbnglmcimckmaaM7
namespace Go.Proofs.Ytdbnglmcimckmaa.M
open Go.RowKit Go.Proofs.YtdbnglmcimckmaaW.PrintWords Go.Proofs.YtdbnglmcimckmaaW.PrintLast Go.Proofs.YtdbnglmcimckmaaW.PrintMore
attribute [local go_sem] max2_int min2_int max_two min_two max_three min_three max_four min_four   -- for this text's walks alone
set_option linter.unusedVariables false
set_option linter.unusedSimpArgs false

/-! ### What the blocks of a text tell (no program in sight) -/
theorem strOfNums_bytesOf (s : ByteArray) : strOfNums (bytesOf s) = s := by
  apply bytes_ext
  rw [strOfNums_data, bytesOf, List.map_map]
  conv => rhs; rw [← List.map_id s.data.toList]
  apply List.map_congr_left
  intro b _
  simp
theorem bytesOf_inj {s t : ByteArray} (h : bytesOf s = bytesOf t) : s = t := by rw [← strOfNums_bytesOf s, h, strOfNums_bytesOf]
theorem bytesOf_data {s : ByteArray} : bytesOf s = s.data.toList.map fun b => (b.toNat : Int) := rfl
theorem cutOf_length (s : ByteArray) (n : Nat) : (cutOf s n).length = n := by simp [cutOf]
theorem cutOf_may (s : ByteArray) (n : Nat) : ((cutOf s n).all fun b => b.length == 512) = true := by
  rw [List.all_eq_true]
  intro x hx
  simp only [cutOf, List.mem_map] at hx
  obtain ⟨i, _, rfl⟩ := hx
  rw [blk_length]; rfl
/-- The blocks of a text, one behind the other: it, and noughts. -/
theorem cutOf_flat (s : ByteArray) : ∀ n : Nat, (cutOf s n).flatten = (bytesOf s).take (512 * n) ++ List.replicate (512 * n - s.size) 0
  | 0 => by simp [cutOf]
  | n + 1 => by
    rw [cutOf_succ, List.flatten_append, cutOf_flat s n]
    have hb : blk s n = ((bytesOf s).drop (512 * n)).take 512 ++ List.replicate (512 - (s.size - 512 * n)) 0 := by
      unfold blk
      have h1 : bytesOf (pieceS s n) = ((bytesOf s).drop (512 * n)).take 512 := by
        simp [bytesOf, pieceS]
      have h2 : (pieceS s n).size = min 512 (s.size - 512 * n) := by
        rw [← bytesOf_length, h1, List.length_take, List.length_drop, bytesOf_length]
      rw [h1, h2]
      congr 2
      omega
    have hl := bytesOf_length s
    simp only [List.flatten_cons, List.flatten_nil, List.append_nil]
    rw [hb]
    by_cases hc : 512 * n ≤ s.size
    · rw [show 512 * n - s.size = 0 by omega, List.replicate_zero, List.append_nil, ← List.append_assoc, ← List.take_add, show 512 * n + 512 = 512 * (n + 1) by omega]
      congr 2
      omega
    · rw [List.drop_of_length_le (by omega), List.take_nil, List.nil_append, List.append_assoc, List.replicate_append_replicate, List.take_of_length_le (by omega), List.take_of_length_le (by omega)]
      congr 2
      omega
theorem cutOf_text (s : ByteArray) : (cutOf s (manyS s)).flatten = bytesOf s ++ List.replicate (512 * manyS s - s.size) 0 := by
  rw [cutOf_flat, List.take_of_length_le (by rw [bytesOf_length]; unfold manyS; omega)]
theorem manyI_many (s : ByteArray) : manyI (s.size : Int) = (manyS s : Int) := by
  unfold manyI manyS
  by_cases h : (s.size : Int) < 1
  · rw [if_pos h]; omega
  · rw [if_neg h]; omega
/-- block.Text, told: where the blocks may be and are as many as the bytes take. -/
theorem block_Text.tells (l : List (List Int)) (n : Int) (h0 : -9223372036854775808 ≤ n) (h1 : n ≤ 9223372036854775807) (hl : l.length ≤ 1000000) :
    block_Text.f l n = some (if 0 ≤ n ∧ (l.all fun b => b.length == 512) = true ∧ manyI n = l.length then (strOfNums (l.flatten.take n.toNat), true) else (⟨#[]⟩, false)) := by
  unfold block_Text.f
  by_cases hn : n < 0
  · rw [if_pos hn, if_neg (by omega)]
  · rw [if_neg hn, block_May.tells, Option.bind_some]
    cases hm : (l.all fun b => b.length == 512) with
    | false => rw [if_neg (by simp), if_neg (by simp)]
    | true =>
      rw [if_pos rfl, block_Many.tells n h0 h1, Option.bind_some]
      by_cases hk : manyI n = l.length
      · rw [if_pos hk, if_pos ⟨by omega, rfl, hk⟩]
        have hflat : l.flatten.length = 512 * l.length := by
          clear hk hl
          induction l with
          | nil => rfl
          | cons a l ih =>
            simp only [List.all_cons, Bool.and_eq_true, beq_iff_eq] at hm
            rw [List.flatten_cons, List.length_append, List.length_cons, ih hm.2, hm.1]
            omega
        have hle : n ≤ 512 * (l.length : Int) := by
          rw [← hk]; unfold manyI; split <;> omega
        unfold block_joined.f
        rw [if_pos (by omega), Option.bind_some, if_pos (by omega), strOfNums_size, if_pos (by omega)]
        congr 2
        apply bytes_ext
        rw [ext_data, strOfNums_data, strOfNums_data]
        simp
      · rw [if_neg hk, if_neg (by omega)]
/-- What is cut is told again. -/
theorem block_Text.back (s : ByteArray) (hs : s.size ≤ 1000000) : block_Text.f (cutOf s (manyS s)) (s.size : Int) = some (s, true) := by
  rw [block_Text.tells _ _ (by omega) (by omega) (by rw [cutOf_length]; unfold manyS; omega), if_pos ⟨by omega, cutOf_may _ _, by rw [manyI_many, cutOf_length]⟩, cutOf_text]
  congr 2
  rw [show (s.size : Int).toNat = (bytesOf s).length by rw [bytesOf_length]; omega, List.take_left, strOfNums_bytesOf]
theorem bt_lt (s : ByteArray) (i : Nat) (h : i < s.size) : bt s (i : Int) = (bytesOf s)[i]'(by rw [bytesOf_length]; exact h) := by
  simp only [bt, bytesOf, List.getElem_map, Int.toNat_natCast]
  rw [dif_pos h]
  rfl
theorem blk_get (s : ByteArray) (m j : Nat) (hj : j < 512) : (blk s m)[j]? = some (if 512 * m + j < s.size then bt s ((512 * m + j : Nat) : Int) else 0) := by
  have h1 : bytesOf (pieceS s m) = ((bytesOf s).drop (512 * m)).take 512 := by simp [bytesOf, pieceS]
  have h2 : (pieceS s m).size = min 512 (s.size - 512 * m) := by
    rw [← bytesOf_length, h1, List.length_take, List.length_drop, bytesOf_length]
  unfold blk
  by_cases h : 512 * m + j < s.size
  · rw [if_pos h, List.getElem?_append_left (by rw [bytesOf_length]; omega), h1, List.getElem?_take, if_pos hj, List.getElem?_drop, List.getElem?_eq_getElem (by rw [bytesOf_length]; exact h), bt_lt s _ h]
  · rw [if_neg h, List.getElem?_append_right (by rw [bytesOf_length]; omega), List.getElem?_replicate, if_pos (by rw [bytesOf_length]; omega)]

end Go.Proofs.Ytdbnglmcimckmaa.M
