/- Part of a claim: what some functions of the program compute, each with its contract; no condition of its own. Written by a program of this workplace (gen.py, over the print of the kit) and by hand. -/
import Derived.Test.YtckoafndhccomaaM0
import Derived.Test.YtckoafndhccomaaM3
import Derived.Test.YtckoafndhccomaaM8
import Derived.Test.YtckoafndhccomaaM9
import Derived.Test.YtckoafndhccomaaM11
import Derived.Test.YtckoafndhccomaaM12
namespace Go.Proofs.Ytckoafndhccomaa.M
open Go.RowKit Go.Proofs.YtckoafndhccomaaW.PrintWords Go.Proofs.YtckoafndhccomaaW.PrintLast Go.Proofs.YtckoafndhccomaaW.PrintMore
attribute [local go_sem] max2_int min2_int max_two min_two max_three min_three max_four min_four   -- for this text's walks alone
set_option linter.unusedVariables false
set_option linter.unusedSimpArgs false

/-! ### Records: what is grouped is blocks again -/
def manyR (n b : Int) : Int := if n < 1 then 0 else if 1 ≤ b ∧ b ≤ 20 then (n - 1) / b + 1 else 0
theorem factor_f (b : Int) : record_factor.f b = some (decide (1 ≤ b ∧ b ≤ 20)) := by
  unfold record_factor.f
  by_cases h : b ≥ 1
  · rw [if_pos h]
    by_cases h2 : b ≤ 20
    · rw [decide_eq_true h2, decide_eq_true ⟨h, h2⟩]
    · rw [decide_eq_false h2, decide_eq_false (fun hh => h2 hh.2)]
  · rw [if_neg h, decide_eq_false (fun hh => h hh.1)]
theorem div_small {n b : Int} (hn : 0 ≤ n) (hb : 1 ≤ b) : 0 ≤ n / b ∧ n / b ≤ n := ⟨Int.ediv_nonneg hn (by omega), by
  have h := Int.ediv_mul_le n (show b ≠ 0 by omega)
  have h0 := Int.ediv_nonneg hn (show 0 ≤ b by omega)
  have h2 : n / b * 1 ≤ n / b * b := Int.mul_le_mul_of_nonneg_left hb h0
  omega⟩
theorem record_Many.tells (n b : Int) (h0 : -9223372036854775808 ≤ n) (h1 : n ≤ 9223372036854775807) : record_Many.f n b = some (manyR n b) := by
  unfold record_Many.f manyR
  by_cases h : n < 1
  · rw [if_pos h, if_pos h]
  · rw [if_neg h, if_neg h, factor_f, Option.bind_some]
    by_cases hb : 1 ≤ b ∧ b ≤ 20
    · obtain ⟨q0, q1⟩ := div_small (n := n - 1) (b := b) (by omega) hb.1
      have q2 : n - 1 < 9223372036854775807 := by omega
      rw [decide_eq_true hb, if_pos rfl, if_neg (by omega), if_pos hb, show wrap64 (n - 1) = n - 1 from wrap_id (by omega) (by omega), Int.tdiv_eq_ediv_of_nonneg (by omega), show wrap64 ((n - 1) / b) = (n - 1) / b from wrap_id (by omega) (by omega), show wrap64 ((n - 1) / b + 1) = (n - 1) / b + 1 from wrap_id (by omega) (by omega)]
    · rw [decide_eq_false hb, if_neg (by decide), if_neg hb]
theorem manyR_parts (len b : Nat) (hb : 1 ≤ b) (hb2 : b ≤ 20) : manyR (len : Int) (b : Int) = (partsOf len b : Int) := by
  unfold manyR partsOf
  by_cases h : (len : Int) < 1
  · rw [if_pos h]
    obtain rfl : len = 0 := by omega
    rw [Nat.div_eq_of_lt (by omega)]; rfl
  · rw [if_neg h, if_pos ⟨by omega, by omega⟩]
    obtain ⟨m, rfl⟩ : ∃ m, len = m + 1 := ⟨len - 1, by omega⟩
    rw [show ((m + 1 : Nat) : Int) - 1 = (m : Int) by omega, show m + 1 + b - 1 = m + b by omega, Nat.add_div_right _ (by omega)]
    rw [Int.natCast_add, Int.natCast_ediv]
    rfl
theorem parts_mul (n b : Nat) (hb : 1 ≤ b) : partsOf (b * n) b = n := by
  unfold partsOf
  rw [show b * n + b - 1 = b - 1 + b * n by omega, Nat.add_mul_div_left _ _ (by omega), Nat.div_eq_of_lt (by omega)]
  omega
/-- Windows of rows of one length. -/
theorem flat_len {α : Type} {m : Nat} : ∀ p : List (List α), (∀ x ∈ p, x.length = m) → p.flatten.length = m * p.length
  | [], _ => by simp
  | a :: p, h => by
    rw [List.flatten_cons, List.length_append, List.length_cons, flat_len p (fun x hx => h x (List.mem_cons_of_mem _ hx)), h a (List.mem_cons_self ..), Nat.mul_add]
    omega
theorem flat_window {α : Type} {m : Nat} (p : List (List α)) (h : ∀ x ∈ p, x.length = m) (i : Nat) (hi : i < p.length) : (p.flatten.drop (m * i)).take m = p[i] := by
  have h1 : p.flatten = (p.take i).flatten ++ (p[i] ++ (p.drop (i + 1)).flatten) := by
    conv => lhs; rw [← List.take_append_drop i p, List.drop_eq_getElem_cons hi]
    rw [List.flatten_append, List.flatten_cons]
  have h2 : (p.take i).flatten.length = m * i := by
    rw [flat_len _ (fun x hx => h x (List.mem_of_mem_take hx)), List.length_take, Nat.min_eq_left (by omega)]
  have h3 : p[i].length = m := h _ (List.getElem_mem hi)
  rw [h1, List.drop_append, h2, List.drop_eq_nil_of_le (by omega), List.nil_append, Nat.sub_self, List.drop_zero, List.take_append, h3, Nat.sub_self, List.take_zero, List.append_nil, List.take_of_length_le (by omega)]
theorem windows_flat {α : Type} (L : List α) (b : Nat) : ∀ n : Nat, ((List.range n).map fun i => (L.drop (b * i)).take b).flatten = L.take (b * n)
  | 0 => by simp
  | n + 1 => by
    rw [List.range_succ, List.map_append, List.flatten_append, windows_flat L b n]
    simp only [List.map_cons, List.map_nil, List.flatten_cons, List.flatten_nil, List.append_nil]
    rw [Nat.mul_add, Nat.mul_one, List.take_add]
theorem chunks_flat (p : List (List Int)) (h : ∀ x ∈ p, x.length = 512) : chunksOf p.flatten p.length = p := by
  apply List.ext_getElem
  · simp [chunksOf]
  · intro i h1 h2
    have h3 := flat_window p h i h2
    simpa [chunksOf, chunkAt] using h3
theorem flat_chunks (r : List Int) (n : Nat) : (chunksOf r n).flatten = r.take (512 * n) := windows_flat r 512 n
/-- The blocks, filled up with noughts. -/
def padded (l : List (List Int)) (b : Nat) : List (List Int) := l ++ List.replicate (b * partsOf l.length b - l.length) (List.replicate 512 0)
theorem parts_cover (len b : Nat) (hb : 1 ≤ b) : len ≤ b * partsOf len b ∧ b * partsOf len b < len + b := by
  have h1 := parts_lt len b (partsOf len b) hb
  constructor
  · have h2 : ¬ b * partsOf len b < len := fun h => absurd (h1.2 h) (Nat.lt_irrefl _)
    omega
  · by_cases h0 : partsOf len b = 0
    · rw [h0]; omega
    · have h2 := (parts_lt len b (partsOf len b - 1) hb).1 (by omega)
      obtain ⟨q, hq⟩ : ∃ q, partsOf len b = q + 1 := ⟨partsOf len b - 1, by omega⟩
      rw [hq] at h2 ⊢
      rw [Nat.add_sub_cancel] at h2
      rw [Nat.mul_add]
      omega
theorem padded_length (l : List (List Int)) (b : Nat) (hb : 1 ≤ b) : (padded l b).length = b * partsOf l.length b := by
  have := parts_cover l.length b hb
  unfold padded
  rw [List.length_append, List.length_replicate]
  omega
theorem padded_512 (l : List (List Int)) (b : Nat) (h : ∀ x ∈ l, x.length = 512) : ∀ x ∈ padded l b, x.length = 512 := by
  intro x hx
  rcases List.mem_append.1 hx with h1 | h1
  · exact h x h1
  · rw [(List.mem_replicate.1 h1).2, List.length_replicate]
theorem recOf_window (l : List (List Int)) (b i : Nat) (hb : 1 ≤ b) (h : ∀ x ∈ l, x.length = 512) (hi : i < partsOf l.length b) : recOf l b i = (((padded l b).drop (b * i)).take b).flatten := by
  have h1 := (parts_lt l.length b i hb).1 hi
  have h2 := padded_length l b hb
  have h3 : b * i + b ≤ b * partsOf l.length b := by
    have : b * (i + 1) ≤ b * partsOf l.length b := Nat.mul_le_mul_left _ hi
    rwa [Nat.mul_add, Nat.mul_one] at this
  have h5 : ((l.drop (b * i)).take b).flatten.length = 512 * min b (l.length - b * i) := by
    rw [flat_len _ (fun x hx => h x (List.mem_of_mem_drop (List.mem_of_mem_take hx))), List.length_take, List.length_drop]
  unfold recOf padded
  rw [h5, List.drop_append, List.take_append, List.length_drop, List.flatten_append, show b * i - l.length = 0 by omega, List.drop_zero, List.take_replicate, List.flatten_replicate_replicate]
  congr 2
  rw [show min (b - (l.length - b * i)) (b * partsOf l.length b - l.length) = b - (l.length - b * i) by omega]
  omega
theorem groupOf_flat (l : List (List Int)) (b : Nat) (hb : 1 ≤ b) (h : ∀ x ∈ l, x.length = 512) : blocksOf (groupOf l b (partsOf l.length b)) = padded l b := by
  have h1 : ∀ r ∈ groupOf l b (partsOf l.length b), ∃ i, i < partsOf l.length b ∧ r = (((padded l b).drop (b * i)).take b).flatten := by
    intro r hr
    simp only [groupOf, List.mem_map, List.mem_range] at hr
    obtain ⟨i, hi, rfl⟩ := hr
    exact ⟨i, hi, recOf_window l b i hb h hi⟩
  have h2 : (groupOf l b (partsOf l.length b)).map (fun r => chunksOf r (partsOf r.length 512)) = (List.range (partsOf l.length b)).map fun i => ((padded l b).drop (b * i)).take b := by
    unfold groupOf
    rw [List.map_map]
    apply List.map_congr_left
    intro i hi
    have hi2 : i < partsOf l.length b := List.mem_range.1 hi
    simp only [Function.comp_apply]
    have h3 : b * i + b ≤ b * partsOf l.length b := by
      have : b * (i + 1) ≤ b * partsOf l.length b := Nat.mul_le_mul_left _ hi2
      rwa [Nat.mul_add, Nat.mul_one] at this
    have h4 : (((padded l b).drop (b * i)).take b).length = b := by
      rw [List.length_take, List.length_drop, padded_length l b hb]; omega
    have h5 : ∀ x ∈ ((padded l b).drop (b * i)).take b, x.length = 512 := fun x hx => padded_512 l b h x (List.mem_of_mem_drop (List.mem_of_mem_take hx))
    rw [recOf_window l b i hb h hi2, flat_len _ h5, parts_mul _ _ (by omega), chunks_flat _ h5]
  unfold blocksOf
  rw [h2, windows_flat, List.take_of_length_le (by rw [padded_length l b hb]; exact Nat.le_refl _)]
theorem rec_length (l : List (List Int)) (b i : Nat) (hb : 1 ≤ b) (h : ∀ x ∈ l, x.length = 512) (hi : i < partsOf l.length b) : (recOf l b i).length = 512 * b := by
  have h3 : b * i + b ≤ b * partsOf l.length b := by
    have : b * (i + 1) ≤ b * partsOf l.length b := Nat.mul_le_mul_left _ hi
    rwa [Nat.mul_add, Nat.mul_one] at this
  rw [recOf_window l b i hb h hi, flat_len _ (fun x hx => padded_512 l b h x (List.mem_of_mem_drop (List.mem_of_mem_take hx))), List.length_take, List.length_drop, padded_length l b hb]
  congr 1
  omega
theorem recMay_of (r : List Int) (b : Nat) (hb : 1 ≤ b) (hb2 : b ≤ 20) (h : r.length = 512 * b) : recMay r = true := by
  unfold recMay
  rw [h, Nat.mul_mod_right, Nat.mul_div_cancel_left _ (by omega)]
  simp [hb, hb2]
theorem groupOf_may (l : List (List Int)) (b : Nat) (hb : 1 ≤ b) (hb2 : b ≤ 20) (h : ∀ x ∈ l, x.length = 512) : (groupOf l b (partsOf l.length b)).all recMay = true := by
  rw [List.all_eq_true]
  intro r hr
  simp only [groupOf, List.mem_map, List.mem_range] at hr
  obtain ⟨i, hi, rfl⟩ := hr
  exact recMay_of _ b hb hb2 (rec_length l b i hb h hi)
/-- Records of one length are, as blocks, grouped as they were. -/
theorem chunks_512 (r : List Int) (n : Nat) (h : r.length = 512 * n) : ∀ x ∈ chunksOf r n, x.length = 512 := by
  intro x hx
  simp only [chunksOf, List.mem_map, List.mem_range] at hx
  obtain ⟨i, hi, rfl⟩ := hx
  have h3 : 512 * i + 512 ≤ 512 * n := by omega
  unfold chunkAt
  rw [List.length_take, List.length_drop]
  omega
theorem again (rs : List (List Int)) (b : Nat) (hb : 1 ≤ b) (h : ∀ x ∈ rs, x.length = 512 * b) : (∀ x ∈ blocksOf rs, x.length = 512) ∧ (blocksOf rs).length = b * rs.length ∧ groupOf (blocksOf rs) b (partsOf (blocksOf rs).length b) = rs := by
  have h0 : blocksOf rs = (rs.map fun r => chunksOf r b).flatten := by
    unfold blocksOf
    congr 1
    apply List.map_congr_left
    intro r hr
    rw [h r hr, parts_mul _ _ (by omega)]
  have h1 : ∀ p ∈ rs.map fun r => chunksOf r b, p.length = b := by
    intro p hp
    obtain ⟨r, _, rfl⟩ := List.mem_map.1 hp
    simp [chunksOf]
  have h2 : (blocksOf rs).length = b * rs.length := by rw [h0, flat_len _ h1, List.length_map]
  have h3 : ∀ x ∈ blocksOf rs, x.length = 512 := by
    intro x hx
    rw [h0] at hx
    obtain ⟨p, hp, hx2⟩ := List.mem_flatten.1 hx
    obtain ⟨r, hr, rfl⟩ := List.mem_map.1 hp
    exact chunks_512 r b (h r hr) x hx2
  refine ⟨h3, h2, ?_⟩
  rw [h2, parts_mul _ _ hb]
  apply List.ext_getElem
  · simp [groupOf]
  · intro i h4 h5
    have h6 := flat_window (rs.map fun r => chunksOf r b) h1 i (by simpa using h5)
    rw [← h0, List.getElem_map] at h6
    simp only [groupOf, List.getElem_map, List.getElem_range]
    unfold recOf
    rw [h6, flat_chunks, List.take_of_length_le (by rw [h _ (List.getElem_mem h5)]; exact Nat.le_refl _), h _ (List.getElem_mem h5), show b * 512 - 512 * b = 0 by omega, List.replicate_zero, List.append_nil]

end Go.Proofs.Ytckoafndhccomaa.M
