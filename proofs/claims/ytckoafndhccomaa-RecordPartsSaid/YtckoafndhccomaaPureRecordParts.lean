/- RecordParts: blocks that fill their records are grouped, with others behind, as both; one block a record is as the blocks are: for all blocks and every int. -/
import Derived.Test.YtckoafndhccomaaM0
import Derived.Test.YtckoafndhccomaaM5
import Derived.Test.YtckoafndhccomaaM11
import Derived.Test.YtckoafndhccomaaM15
import Derived.Test.YtckoafndhccomaaM21
import Derived.Test.YtckoafndhccomaaM27
import Derived.Test.YtckoafndhccomaaM31
import Derived.Test.YtckoafndhccomaaM32
import Derived.Test.YtckoafndhccomaaM33
import Derived.Test.YtckoafndhccomaaM42
import Derived.Test.YtckoafndhccomaaM46
namespace Go.Proofs.Ytckoafndhccomaa.Pure
open Go.RowKit Go.Proofs.Ytckoafndhccomaa.M Go.Proofs.YtckoafndhccomaaW.PrintWords Go.Proofs.YtckoafndhccomaaW.PrintLast
theorem same_self3 (l : List (List Int)) : reelkeeperref03_Same.f l l = some true := by unfold reelkeeperref03_Same.f; rw [decide_eq_true rfl]
theorem group_join (l k : List (List Int)) (b m : Nat) (hb : 1 ≤ b) (h : l.length = b * m) : groupOf (l ++ k) b (partsOf (l ++ k).length b) = groupOf l b (partsOf l.length b) ++ groupOf k b (partsOf k.length b) := by
  have e1 : partsOf l.length b = m := by rw [h, parts_mul _ _ hb]
  have e2 : partsOf (l ++ k).length b = m + partsOf k.length b := by
    unfold partsOf
    rw [List.length_append, h, show b * m + k.length + b - 1 = (k.length + b - 1) + b * m by omega, Nat.add_mul_div_left _ _ (by omega)]
    omega
  rw [e1, e2]
  apply List.ext_getElem
  · simp [groupOf]
  · intro j h1 h2
    have h3 : j < m + partsOf k.length b := by simpa [groupOf] using h1
    rcases Nat.lt_or_ge j m with hj | hj
    · have h4 : b * j + b ≤ b * m := by
        have : b * (j + 1) ≤ b * m := Nat.mul_le_mul_left _ hj
        rwa [Nat.mul_add, Nat.mul_one] at this
      rw [List.getElem_append_left (by simp [groupOf]; omega)]
      simp only [groupOf, List.getElem_map, List.getElem_range]
      unfold recOf
      rw [List.drop_append_of_le_length (by omega), List.take_append_of_le_length (by rw [List.length_drop]; omega)]
    · rw [List.getElem_append_right (by simp [groupOf]; omega)]
      simp only [groupOf, List.getElem_map, List.getElem_range, List.length_map, List.length_range]
      have h4 : b * m ≤ b * j := Nat.mul_le_mul_left _ hj
      have : (l ++ k).drop (b * j) = k.drop (b * (j - m)) := by
        rw [List.drop_append, List.drop_eq_nil_of_le (by omega), List.nil_append, h, Nat.mul_sub]
      unfold recOf
      rw [this]
theorem group_one (l : List (List Int)) (h : ∀ x ∈ l, x.length = 512) : groupOf l 1 (partsOf l.length 1) = l := by
  have e : partsOf l.length 1 = l.length := by unfold partsOf; rw [Nat.div_one]; omega
  rw [e]
  apply List.ext_getElem
  · simp [groupOf]
  · intro j h1 h2
    simp only [groupOf, List.getElem_map, List.getElem_range]
    unfold recOf
    rw [Nat.one_mul, List.drop_eq_getElem_cons h2, List.take_succ_cons, List.take_zero]
    simp [h _ (List.getElem_mem h2)]
theorem RecordParts (l k : List (List Int)) (b : Int) (ok : RowsOk l) (ok2 : RowsOk k) (hw : (Lit.int .i64 b).wf = true) : ∃ q, reelkeeperlaw11_RecordParts.f q l k b = some true := by
  have hb := wf_range hw
  have hm : l.length ≤ 9223372036854775807 := by have := ok.1; unfold maxLen at this; exact this
  have hm2 : k.length ≤ 9223372036854775807 := by have := ok2.1; unfold maxLen at this; exact this
  obtain ⟨K1, h1⟩ := reelkeeperlaw11_awake.tells
  obtain ⟨t, ⟨K2, h2⟩, hb3⟩ := reelkeeperlaw03_Few.tells l hm
  obtain ⟨t2, ⟨K3, h3⟩, hb4⟩ := reelkeeperlaw03_Few.tells k hm2
  refine ⟨K1 + K2 + K3 + 1, ?_⟩
  unfold reelkeeperlaw11_RecordParts.f
  have g2 : reelkeeperlaw03_Few.f (K1 + K2 + K3 + 1) l = some t := h2 _ (by omega)
  have g3 : reelkeeperlaw03_Few.f (K1 + K2 + K3 + 1) k = some t2 := h3 _ (by omega)
  rw [h1 _ (by omega), Option.bind_some, g2, Option.bind_some, g3, Option.bind_some, if_pos rfl]
  simp only [reelkeeperlaw11_RecordParts.j0]
  cases t with
  | false => rw [if_neg (by decide), if_pos trivial]
  | true =>
    rw [if_pos rfl]
    cases t2 with
    | false => rw [if_neg (by decide), if_pos trivial]
    | true =>
      obtain ⟨hl, _⟩ := hb3 rfl
      obtain ⟨hl2, _⟩ := hb4 rfl
      rw [if_pos rfl]
      by_cases c1 : b < 1
      · rw [if_pos c1, if_pos trivial]
      · rw [if_neg c1]
        by_cases c2 : b > 20
        · rw [if_pos c2, if_pos trivial]
        · rw [if_neg c2, if_neg (by omega)]
          obtain ⟨m, rfl⟩ := Int.eq_ofNat_of_zero_le (show 0 ≤ b by omega)
          by_cases c3 : (l.length : Int) % (m : Int) = 0
          · rw [if_pos c3, block_May.tells, Option.bind_some]
            cases hal : (l.all fun b => b.length == 512) with
            | false => rw [if_neg (by decide), if_pos trivial]
            | true =>
              rw [if_pos rfl, block_May.tells, Option.bind_some]
              cases hak : (k.all fun b => b.length == 512) with
              | false => rw [if_pos (by rfl)]
              | true =>
                rw [if_neg (by decide)]
                have al : ∀ x ∈ l, x.length = 512 := fun x hx => by simpa using List.all_eq_true.1 hal x hx
                have ak : ∀ x ∈ k, x.length = 512 := fun x hx => by simpa using List.all_eq_true.1 hak x hx
                have hm1 : 1 ≤ m := by omega
                have c4 : l.length % m = 0 := by
                  have : ((l.length % m : Nat) : Int) = 0 := by rw [Int.natCast_emod]; exact c3
                  omega
                have hdiv : l.length = m * (l.length / m) := by
                  have := Nat.div_add_mod l.length m
                  omega
                have alk : ∀ x ∈ l ++ k, x.length = 512 := fun x hx => by
                  rcases List.mem_append.1 hx with h5 | h5
                  · exact al x h5
                  · exact ak x h5
                have e1 := record_Group.tells l m hm1 (by omega) (by omega) al
                have e2 := record_Group.tells k m hm1 (by omega) (by omega) ak
                have e3 := record_Group.tells (l ++ k) m hm1 (by omega) (by rw [List.length_append]; omega) alk
                have e4 := record_Group.tells l 1 (by omega) (by omega) (by omega) al
                rw [group_one l al] at e4
                rw [group_join l k m _ hm1 hdiv] at e3
                have hp1 := parts_cover l.length m hm1
                have hp2 := parts_cover k.length m hm1
                have hq1 : partsOf l.length m ≤ m * partsOf l.length m := Nat.le_mul_of_pos_left _ hm1
                have hq2 : partsOf k.length m ≤ m * partsOf k.length m := Nat.le_mul_of_pos_left _ hm1
                rw [e1, Option.bind_some, e2, Option.bind_some, if_pos (by rw [List.length_nil]; omega), Option.bind_some, List.nil_append, if_pos (by omega), e3, Option.bind_some, if_pos (by simp only [groupOf_length, List.length_nil]; omega), Option.bind_some, List.nil_append, if_pos (by simp only [groupOf_length]; omega), same_self3, Option.bind_some, show (1 : Int) = ((1 : Nat) : Int) from rfl, e4, Option.bind_some, same_self3, Option.bind_some, if_pos rfl, if_pos rfl, if_pos rfl]
          · rw [if_neg c3, if_pos trivial]
end Go.Proofs.Ytckoafndhccomaa.Pure
