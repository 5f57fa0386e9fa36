/- Part of a claim: what some functions of the program compute, each with its contract; no condition of its own. Written by a program of this workplace (gen.py, over the print of the kit) and by hand. -/
import Derived.Test.YtdbnglmcimckmaaM0
import Derived.Test.YtdbnglmcimckmaaM2
import Derived.Test.YtdbnglmcimckmaaM13
import Derived.Test.YtdbnglmcimckmaaM14
import Derived.Test.YtdbnglmcimckmaaM15
import Derived.Test.YtdbnglmcimckmaaM21
import Derived.Test.YtdbnglmcimckmaaM27
import Derived.Test.YtdbnglmcimckmaaM28
import Derived.Test.YtdbnglmcimckmaaM29
import Derived.Test.YtdbnglmcimckmaaM31
import Derived.Test.YtdbnglmcimckmaaM32
import Derived.Test.YtdbnglmcimckmaaM33
namespace Go.Proofs.Ytdbnglmcimckmaa.M
open Go.RowKit Go.Proofs.YtdbnglmcimckmaaW.PrintWords Go.Proofs.YtdbnglmcimckmaaW.PrintLast Go.Proofs.YtdbnglmcimckmaaW.PrintMore
attribute [local go_sem] max2_int min2_int max_two min_two max_three min_three max_four min_four   -- for this text's walks alone
set_option linter.unusedVariables false
set_option linter.unusedSimpArgs false

/-! ### What the document's answers tell (no program in sight) -/
theorem rd_L1_at (l : List (List Int)) (i : Int) (h : i.toNat < l.length) : rd_L1 l i = l[i.toNat] := by
  simp [rd_L1, List.getD_eq_getElem?_getD, h]
theorem all_take_succ {α : Type} (p : α → Bool) (l : List α) (i : Nat) (h : i < l.length) : (l.take (i + 1)).all p = ((l.take i).all p && p l[i]) := by
  rw [List.take_add_one, List.getElem?_eq_getElem h, List.all_append]
  simp
theorem all_take_false {α : Type} (p : α → Bool) (l : List α) (i : Nat) (h : i < l.length) (hp : p l[i] = false) : l.all p = false := by
  cases hh : l.all p with
  | false => rfl
  | true =>
    rw [List.all_eq_true] at hh
    rw [hh _ (List.getElem_mem h)] at hp
    cases hp
theorem reelkeeperref03_May.ends (l : List (List Int)) (hm : l.length ≤ 9223372036854775807) (d : Nat) : ∀ (k : Nat) (i : Int), 0 ≤ i → i ≤ l.length → (l.length : Int) - i = d → d < k → ((l.take i.toNat).all fun b => b.length == 512) = true →
    reelkeeperref03_May.l0 k l i = some (l.all fun b => b.length == 512) := by
  induction d with
  | zero =>
    intro k i h0 h1 hd hk ha
    obtain ⟨k, rfl⟩ : ∃ m, k = m + 1 := ⟨k - 1, by omega⟩
    simp only [reelkeeperref03_May.l0]
    rw [if_neg (by omega)]
    rw [List.take_of_length_le (by omega)] at ha
    rw [ha]
  | succ d ih =>
    intro k i h0 h1 hd hk ha
    obtain ⟨k, rfl⟩ : ∃ m, k = m + 1 := ⟨k - 1, by omega⟩
    simp only [reelkeeperref03_May.l0]
    have hlt : i.toNat < l.length := by omega
    rw [if_pos (by omega), if_pos h0, rd_L1_at l i hlt]
    by_cases h5 : (l[i.toNat].length : Int) = 512
    · rw [if_pos h5, wrap_id (by omega) (by omega)]
      refine ih k (i + 1) (by omega) (by omega) (by omega) (by omega) ?_
      rw [show (i + 1).toNat = i.toNat + 1 by omega, all_take_succ _ _ _ hlt, ha]
      simp; omega
    · rw [if_neg h5, all_take_false _ l i.toNat hlt (by simp; omega)]
theorem reelkeeperref03_May.tells (l : List (List Int)) (hm : l.length ≤ 9223372036854775807) : ∃ k, reelkeeperref03_May.f k l = some (l.all fun b => b.length == 512) :=
  ⟨l.length + 1, reelkeeperref03_May.ends l hm l.length _ 0 (by omega) (by omega) (by omega) (by omega) (by simp)⟩
theorem reelkeeperref03_Many.tells (n : Int) (h0 : -9223372036854775808 ≤ n) (h1 : n ≤ 9223372036854775807) : reelkeeperref03_Many.f n = some (manyI n) := by
  unfold reelkeeperref03_Many.f manyI
  by_cases h : n < 1
  · rw [if_pos h, if_pos h]
  · rw [if_neg h, if_neg h, Int.tmod_eq_emod_of_nonneg (by omega), Int.tdiv_eq_ediv_of_nonneg (by omega), show wrap64 (n / 512) = n / 512 from wrap_id (by omega) (by omega)]
    by_cases hm : n % 512 > 0
    · rw [if_pos hm, show wrap64 (n / 512 + 1) = n / 512 + 1 from wrap_id (by omega) (by omega)]
      congr 1; omega
    · rw [if_neg hm]
      congr 1; omega
theorem flat_512 (l : List (List Int)) (h : (l.all fun b => b.length == 512) = true) : l.flatten.length = 512 * l.length := by
  induction l with
  | nil => rfl
  | cons a l ih =>
    simp only [List.all_cons, Bool.and_eq_true, beq_iff_eq] at h
    rw [List.flatten_cons, List.length_append, List.length_cons, ih h.2, h.1]
    omega
theorem reelkeeperref03_Text.ends (l : List (List Int)) (n : Int) (hl : l.length ≤ 1000000) (hm : (l.all fun b => b.length == 512) = true) (hn : 0 ≤ n) (hn2 : n ≤ 512 * (l.length : Int)) (d : Nat) : ∀ (k : Nat) (i : Int), 0 ≤ i → i ≤ l.length → (l.length : Int) - i = d → d < k →
    reelkeeperref03_Text.l0 k l n (l.take i.toNat).flatten i = some (strOfNums (l.flatten.take n.toNat), true) := by
  have hfl := flat_512 l hm
  induction d with
  | zero =>
    intro k i h0 h1 hd hk
    obtain ⟨k, rfl⟩ : ∃ m, k = m + 1 := ⟨k - 1, by omega⟩
    simp only [reelkeeperref03_Text.l0]
    rw [if_neg (by omega), if_pos hn, List.take_of_length_le (by omega : l.length ≤ i.toNat), if_pos (by omega)]
  | succ d ih =>
    intro k i h0 h1 hd hk
    obtain ⟨k, rfl⟩ : ∃ m, k = m + 1 := ⟨k - 1, by omega⟩
    simp only [reelkeeperref03_Text.l0]
    have hlt : i.toNat < l.length := by omega
    have h2 := flat_le l (i.toNat + 1)
    have h3 : (l.take (i.toNat + 1)).flatten = (l.take i.toNat).flatten ++ rd_L1 l i := flat_take hlt
    rw [h3, List.length_append] at h2
    rw [if_pos (by omega), if_pos h0, if_pos (by omega), wrap_id (by omega) (by omega), ← h3]
    have := ih k (i + 1) (by omega) (by omega) (by omega) (by omega)
    rwa [show (i + 1).toNat = i.toNat + 1 by omega] at this
theorem reelkeeperref03_Text.tells (l : List (List Int)) (n : Int) (h0 : -9223372036854775808 ≤ n) (h1 : n ≤ 9223372036854775807) (hl : l.length ≤ 1000000) :
    ∃ k, reelkeeperref03_Text.f k l n = some (if 0 ≤ n ∧ (l.all fun b => b.length == 512) = true ∧ manyI n = l.length then (strOfNums (l.flatten.take n.toNat), true) else (⟨#[]⟩, false)) := by
  obtain ⟨k, hk⟩ := reelkeeperref03_May.tells l (by omega)
  refine ⟨k + l.length + 2, ?_⟩
  have hk2 : reelkeeperref03_May.f (k + l.length + 2) l = _ := at_rounds (fun k => reelkeeperref03_May.mono l k) (by omega) hk
  unfold reelkeeperref03_Text.f
  rw [hk2, Option.bind_some]
  cases hm : (l.all fun b => b.length == 512) with
  | false => rw [if_neg (by simp), if_neg (by simp)]; simp only [reelkeeperref03_Text.j0, if_true]
  | true =>
    rw [if_pos rfl]
    by_cases hn : n < 0
    · rw [if_pos hn, if_neg (by omega)]; simp only [reelkeeperref03_Text.j0, if_true]
    · rw [if_neg hn, reelkeeperref03_Many.tells n h0 h1, Option.bind_some]
      simp only [reelkeeperref03_Text.j0]
      by_cases hq : manyI n = l.length
      · rw [if_neg (by simp [hq]), if_pos ⟨by omega, by simp, hq⟩]
        exact reelkeeperref03_Text.ends l n hl hm (by omega) (by rw [← hq]; unfold manyI; split <;> omega) l.length _ 0 (by omega) (by omega) (by omega) (by omega)
      · rw [if_pos (by simpa using hq), if_neg (by omega)]
/-! #### noughts -/
def zerosOf (n : Int) : List (List Int) := if n < 1 ∨ 400 < n then [] else List.replicate n.toNat (List.replicate 512 0)
theorem block_Zeros.ends (n : Int) (hn : 1 ≤ n) (hn2 : n ≤ 400) (d : Nat) : ∀ (k : Nat) (i : Int), 0 ≤ i → i ≤ n → n - i = d → d < k →
    block_Zeros.l0 k (List.replicate i.toNat (List.replicate 512 0)) n i = some (List.replicate n.toNat (List.replicate 512 0)) := by
  induction d with
  | zero =>
    intro k i h0 h1 hd hk
    obtain ⟨k, rfl⟩ : ∃ m, k = m + 1 := ⟨k - 1, by omega⟩
    simp only [block_Zeros.l0]
    rw [if_neg (by omega), show i = n by omega]
  | succ d ih =>
    intro k i h0 h1 hd hk
    obtain ⟨k, rfl⟩ : ∃ m, k = m + 1 := ⟨k - 1, by omega⟩
    simp only [block_Zeros.l0]
    rw [if_pos (by omega), if_pos (by omega), if_pos (by rw [List.length_replicate]; omega), wrap_id (by omega) (by omega), ← List.replicate_succ']
    have := ih k (i + 1) (by omega) (by omega) (by omega) (by omega)
    rwa [show (i + 1).toNat = i.toNat + 1 by omega] at this
theorem block_Zeros.tells (n : Int) : ∃ k, block_Zeros.f k n = some (zerosOf n) := by
  refine ⟨n.toNat + 2, ?_⟩
  unfold block_Zeros.f zerosOf
  by_cases h : n < 1
  · rw [if_pos h, if_pos (.inl h)]; simp only [block_Zeros.j0, if_true]
  · rw [if_neg h]
    simp only [block_Zeros.j0]
    by_cases h2 : n > 400
    · rw [if_pos (by simpa using h2), if_pos (.inr h2)]
    · rw [if_neg (by simpa using h2), if_neg (by omega)]
      exact block_Zeros.ends n (by omega) (by omega) n.toNat _ 0 (by omega) (by omega) (by omega) (by omega)
theorem reelkeeperref03_Zeros.ends (n : Int) (hn : 1 ≤ n) (hn2 : n ≤ 400) (d : Nat) : ∀ (k : Nat) (i : Int), 0 ≤ i → i ≤ n → n - i = d → d < k →
    reelkeeperref03_Zeros.l0 k n (List.replicate i.toNat (List.replicate 512 0)) i = some (List.replicate n.toNat (List.replicate 512 0)) := by
  induction d with
  | zero =>
    intro k i h0 h1 hd hk
    obtain ⟨k, rfl⟩ : ∃ m, k = m + 1 := ⟨k - 1, by omega⟩
    simp only [reelkeeperref03_Zeros.l0]
    rw [if_neg (by omega), show i = n by omega]
  | succ d ih =>
    intro k i h0 h1 hd hk
    obtain ⟨k, rfl⟩ : ∃ m, k = m + 1 := ⟨k - 1, by omega⟩
    simp only [reelkeeperref03_Zeros.l0]
    rw [if_pos (by omega), if_pos (by omega), if_pos (by omega), if_pos (by rw [List.length_replicate]; omega), wrap_id (by omega) (by omega), ← List.replicate_succ']
    have := ih k (i + 1) (by omega) (by omega) (by omega) (by omega)
    rwa [show (i + 1).toNat = i.toNat + 1 by omega] at this
theorem reelkeeperref03_Zeros.tells (n : Int) : ∃ k, reelkeeperref03_Zeros.f k n = some (zerosOf n) := by
  refine ⟨n.toNat + 2, ?_⟩
  unfold reelkeeperref03_Zeros.f zerosOf
  by_cases h : n < 1
  · rw [if_pos (.inl h)]
    simp only [reelkeeperref03_Zeros.l0]
    rw [if_neg (by omega)]
  · by_cases h2 : n > 400
    · rw [if_pos (.inr h2)]
      simp only [reelkeeperref03_Zeros.l0]
      rw [if_pos (by omega), if_neg (by omega)]
    · rw [if_neg (by omega)]
      exact reelkeeperref03_Zeros.ends n (by omega) (by omega) n.toNat _ 0 (by omega) (by omega) (by omega) (by omega)
theorem reelkeeperref03_Zero.ends (l : List Int) (hm : l.length ≤ 9223372036854775807) (d : Nat) : ∀ (k : Nat) (i : Int), 0 ≤ i → i ≤ l.length → (l.length : Int) - i = d → d < k → ((l.take i.toNat).all fun b => b == 0) = true →
    reelkeeperref03_Zero.l0 k l i = some (l.all fun b => b == 0) := by
  induction d with
  | zero =>
    intro k i h0 h1 hd hk ha
    obtain ⟨k, rfl⟩ : ∃ m, k = m + 1 := ⟨k - 1, by omega⟩
    simp only [reelkeeperref03_Zero.l0]
    rw [if_neg (by omega)]
    rw [List.take_of_length_le (by omega)] at ha
    rw [ha]
  | succ d ih =>
    intro k i h0 h1 hd hk ha
    obtain ⟨k, rfl⟩ : ∃ m, k = m + 1 := ⟨k - 1, by omega⟩
    simp only [reelkeeperref03_Zero.l0]
    have hlt : i.toNat < l.length := by omega
    have hr : rd l i = l[i.toNat] := by simp [rd, List.getD_eq_getElem?_getD, hlt]
    rw [if_pos (by omega), if_pos h0, hr]
    by_cases h5 : l[i.toNat] = 0
    · rw [if_pos h5, wrap_id (by omega) (by omega)]
      refine ih k (i + 1) (by omega) (by omega) (by omega) (by omega) ?_
      rw [show (i + 1).toNat = i.toNat + 1 by omega, all_take_succ _ _ _ hlt, ha]
      simp [h5]
    · rw [if_neg h5, all_take_false _ l i.toNat hlt (by simp [h5])]
theorem reelkeeperref03_Zero.tells (l : List Int) (hm : l.length ≤ 9223372036854775807) : ∃ k, reelkeeperref03_Zero.f k l = some (l.all fun b => b == 0) :=
  ⟨l.length + 1, reelkeeperref03_Zero.ends l hm l.length _ 0 (by omega) (by omega) (by omega) (by omega) (by simp)⟩
theorem block_Zero.tells (l : List Int) : block_Zero.f l = some (l.all fun b => b == 0) := by
  unfold block_Zero.f
  congr 1
  induction l with
  | nil => rfl
  | cons a l ih =>
    simp only [List.any_cons, List.all_cons, Bool.not_or, ih]
    cases h : (a == 0) <;> simp_all [bne]
/-! #### the document's cut -/
theorem bt_lt (s : ByteArray) (i : Nat) (h : i < s.size) : bt s (i : Int) = (bytesOf s)[i]'(by rw [bytesOf_length]; exact h) := by
  simp only [bt, bytesOf, List.getElem_map, Int.toNat_natCast]
  rw [dif_pos h]
  rfl
theorem blk_get (s : ByteArray) (m j : Nat) (hj : j < 512) : (blk s m)[j]? = some (if 512 * m + j < s.size then bt s ((512 * m + j : Nat) : Int) else 0) := by
  have h1 : bytesOf (pieceS s m) = ((bytesOf s).drop (512 * m)).take 512 := by simp [bytesOf, pieceS]
  have h2 : (pieceS s m).size = min 512 (s.size - 512 * m) := by
    rw [← bytesOf_length, h1, List.length_take, List.length_drop, bytesOf_length]
  unfold blk
  by_cases h : 512 * m + j < s.size
  · rw [if_pos h, List.getElem?_append_left (by rw [bytesOf_length]; omega), h1, List.getElem?_take, if_pos hj, List.getElem?_drop, List.getElem?_eq_getElem (by rw [bytesOf_length]; exact h), bt_lt s _ h]
  · rw [if_neg h, List.getElem?_append_right (by rw [bytesOf_length]; omega), List.getElem?_replicate, if_pos (by rw [bytesOf_length]; omega)]
/-- The first j bytes of a block, and noughts behind. -/
def part (s : ByteArray) (m j : Nat) : List Int := (blk s m).take j ++ List.replicate (512 - j) 0
theorem part_end (s : ByteArray) (m j : Nat) (hj : j ≤ 512) (h : j = 512 ∨ s.size ≤ 512 * m + j) : part s m j = blk s m := by
  have hl := blk_length s m
  apply List.ext_getElem?
  intro i
  unfold part
  rcases Nat.lt_or_ge i 512 with hi | hi
  · rcases Nat.lt_or_ge i j with hij | hij
    · rw [List.getElem?_append_left (by rw [List.length_take]; omega), List.getElem?_take, if_pos hij]
    · rw [List.getElem?_append_right (by rw [List.length_take]; omega), List.getElem?_replicate, if_pos (by rw [List.length_take]; omega), blk_get s m i hi, if_neg (by omega)]
  · rw [List.getElem?_eq_none (by rw [List.length_append, List.length_take, List.length_replicate]; omega), List.getElem?_eq_none (by omega)]
theorem part_step (s : ByteArray) (m j : Nat) (hj : j < 512) (h : 512 * m + j < s.size) : (part s m j).set j (bt s ((512 * m + j : Nat) : Int)) = part s m (j + 1) := by
  have hl := blk_length s m
  have hg := blk_get s m j hj
  rw [if_pos h] at hg
  unfold part
  rw [List.set_append_right _ _ (by rw [List.length_take]; omega), List.length_take, List.take_add_one, hg, show 512 - j = (512 - (j + 1)) + 1 by omega, List.replicate_succ, show j - min j (blk s m).length = 0 by omega, List.set_cons_zero]
  simp
theorem reelkeeperref03_Cut.rounds (s : ByteArray) (hs : s.size ≤ 1000000) (R : Option (List (List Int))) : ∀ (d k m j : Nat), 512 - j = d → j ≤ 512 → m < manyS s → d < k → (∀ k2, k - d - 1 ≤ k2 → reelkeeperref03_Cut.l0 k2 s (cutOf s (m + 1)) ((m : Int) + 1) = R) →
    reelkeeperref03_Cut.l1 k s (cutOf s m) (m : Int) (part s m j) (j : Int) = R := by
  intro d
  induction d with
  | zero =>
    intro k m j hd hj hm hk hR
    obtain ⟨k, rfl⟩ : ∃ q, k = q + 1 := ⟨k - 1, by omega⟩
    obtain rfl : j = 512 := by omega
    have hb : m < 2000 := by unfold manyS at hm; omega
    simp only [reelkeeperref03_Cut.l1]
    rw [if_neg (by omega), if_pos (by rw [cutOf_length]; omega), wrap_id (by omega) (by omega), part_end s m 512 (by omega) (.inl rfl), ← cutOf_succ]
    exact hR k (by omega)
  | succ d ih =>
    intro k m j hd hj hm hk hR
    obtain ⟨k, rfl⟩ : ∃ q, k = q + 1 := ⟨k - 1, by omega⟩
    have hb : m < 2000 := by unfold manyS at hm; omega
    simp only [reelkeeperref03_Cut.l1]
    rw [if_pos (by omega), show wrap64 (512 * (m : Int)) = 512 * (m : Int) from wrap_id (by omega) (by omega), show wrap64 (512 * (m : Int) + (j : Int)) = ((512 * m + j : Nat) : Int) by rw [wrap_id (by omega) (by omega)]; omega]
    by_cases h : 512 * m + j < s.size
    · have hpl : (part s m j).length = 512 := by unfold part; rw [List.length_append, List.length_take, List.length_replicate, blk_length]; omega
      rw [if_pos (by omega), if_pos (by omega), if_pos (by omega), if_pos (by omega), Int.toNat_natCast, part_step s m j (by omega) h, show wrap64 ((j : Int) + 1) = ((j + 1 : Nat) : Int) by rw [wrap_id (by omega) (by omega)]; omega]
      exact ih k m (j + 1) (by omega) (by omega) hm (by omega) (fun k2 hk2 => hR k2 (by omega))
    · rw [if_neg (by omega), if_pos (by rw [cutOf_length]; omega), wrap_id (by omega) (by omega), part_end s m j (by omega) (.inr (by omega)), ← cutOf_succ]
      exact hR k (by omega)
theorem reelkeeperref03_Cut.ends (s : ByteArray) (hs : s.size ≤ 1000000) : ∀ (d k m : Nat), manyS s - m = d → m ≤ manyS s → 600 * d < k → reelkeeperref03_Cut.l0 k s (cutOf s m) (m : Int) = some (cutOf s (manyS s)) := by
  intro d
  induction d with
  | zero =>
    intro k m hd hm hk
    obtain ⟨k, rfl⟩ : ∃ q, k = q + 1 := ⟨k - 1, by omega⟩
    obtain rfl : m = manyS s := by omega
    simp only [reelkeeperref03_Cut.l0]
    rw [reelkeeperref03_Many.tells _ (by omega) (by omega), Option.bind_some, manyI_many, if_neg (by omega)]
  | succ d ih =>
    intro k m hd hm hk
    obtain ⟨k, rfl⟩ : ∃ q, k = q + 1 := ⟨k - 1, by omega⟩
    simp only [reelkeeperref03_Cut.l0]
    rw [reelkeeperref03_Many.tells _ (by omega) (by omega), Option.bind_some, manyI_many, if_pos (by omega), if_pos (by omega)]
    have hp : (List.replicate 512 (0 : Int)) = part s m 0 := by unfold part; rw [List.take_zero, List.nil_append]
    rw [hp]
    exact reelkeeperref03_Cut.rounds s hs _ 512 k m 0 (by omega) (by omega) (by omega) (by omega) (fun k2 hk2 => ih k2 (m + 1) (by omega) (by omega) (by omega))
theorem reelkeeperref03_Cut.tells (s : ByteArray) (hs : s.size ≤ 1000000) : ∃ k, reelkeeperref03_Cut.f k s = some (cutOf s (manyS s)) :=
  ⟨600 * manyS s + 1, reelkeeperref03_Cut.ends s hs (manyS s) _ 0 (by omega) (by omega) (by omega)⟩

end Go.Proofs.Ytdbnglmcimckmaa.M
