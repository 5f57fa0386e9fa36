/- RecordAgain: records that have all as many blocks are, as blocks, grouped as they were: for all records and every int. -/
import Derived.Test.YtckoafndhccomaaM0
import Derived.Test.YtckoafndhccomaaM11
import Derived.Test.YtckoafndhccomaaM15
import Derived.Test.YtckoafndhccomaaM25
import Derived.Test.YtckoafndhccomaaM27
import Derived.Test.YtckoafndhccomaaM31
import Derived.Test.YtckoafndhccomaaM34
import Derived.Test.YtckoafndhccomaaM35
import Derived.Test.YtckoafndhccomaaM42
import Derived.Test.YtckoafndhccomaaM44
namespace Go.Proofs.Ytckoafndhccomaa.Pure
open Go.RowKit Go.Proofs.Ytckoafndhccomaa.M Go.Proofs.YtckoafndhccomaaW.PrintWords Go.Proofs.YtckoafndhccomaaW.PrintLast
theorem same_self (l : List (List Int)) : reelkeeperref03_Same.f l l = some true := by unfold reelkeeperref03_Same.f; rw [decide_eq_true rfl]
theorem again_ends (l : List (List Int)) (b : Nat) (hb : 1 ≤ b) (hb2 : b ≤ 20) (hl : l.length ≤ 60) : ∀ (d k : Nat) (i : Int), 0 ≤ i → i ≤ l.length → l.length - i = d → d < k → (∀ j, j < i.toNat → (rd_L1 l (j : Int)).length = 512 * b) → reelkeeperlaw11_RecordAgain.l0 k l (b : Int) i = some true := by
  intro d
  induction d with
  | zero =>
    intro k i h0 h1 hd hk hj
    obtain ⟨k, rfl⟩ : ∃ m, k = m + 1 := ⟨k - 1, by omega⟩
    have hall : ∀ x ∈ l, x.length = 512 * b := by
      intro x hx
      obtain ⟨j, hj2, rfl⟩ := List.getElem_of_mem hx
      have := hj j (by omega)
      simpa [rd_L1, List.getD_eq_getElem?_getD, hj2] using this
    obtain ⟨a1, a2, a3⟩ := again l b hb hall
    have hB := record_Blocks.tells l (by omega) (by rw [List.all_eq_true]; exact fun x hx => recMay_of x b hb hb2 (hall x hx))
    have hlen : (blocksOf l).length ≤ 4000 := by
      rw [a2]
      have : b * l.length ≤ 20 * 60 := Nat.mul_le_mul hb2 hl
      omega
    have hG := record_Group.tells (blocksOf l) b hb hb2 hlen a1
    rw [a3] at hG
    simp only [reelkeeperlaw11_RecordAgain.l0]
    rw [if_neg (by omega), hB, Option.bind_some, hG, Option.bind_some, same_self, Option.bind_some, if_pos rfl, if_pos rfl]
  | succ d ih =>
    intro k i h0 h1 hd hk hj
    obtain ⟨k, rfl⟩ : ∃ m, k = m + 1 := ⟨k - 1, by omega⟩
    simp only [reelkeeperlaw11_RecordAgain.l0]
    rw [if_pos (by omega), if_pos h0, wrap_id (x := 512 * (b : Int)) (by omega) (by omega)]
    by_cases hq : ((rd_L1 l i).length : Int) = 512 * (b : Int)
    · rw [if_pos hq, wrap_id (by omega) (by omega)]
      refine ih k (i + 1) (by omega) (by omega) (by omega) (by omega) (fun j hj2 => ?_)
      by_cases e : j = i.toNat
      · subst e; rw [show ((i.toNat : Nat) : Int) = i by omega]; omega
      · exact hj j (by omega)
    · rw [if_neg hq]
theorem RecordAgain (l : List (List Int)) (b : Int) (ok : RowsOk l) (hw : (Lit.int .i64 b).wf = true) : ∃ k, reelkeeperlaw11_RecordAgain.f k l b = some true := by
  have hb := wf_range hw
  have hm : l.length ≤ 9223372036854775807 := by have := ok.1; unfold maxLen at this; exact this
  obtain ⟨K1, h1⟩ := reelkeeperlaw11_awake.tells
  obtain ⟨t, ⟨K2, h2⟩, hb3⟩ := reelkeeperlaw11_FewRecs.tells l hm
  refine ⟨K1 + K2 + 100, ?_⟩
  unfold reelkeeperlaw11_RecordAgain.f
  have g2 : reelkeeperlaw11_FewRecs.f (K1 + K2 + 100) l = some t := h2 _ (by omega)
  rw [h1 _ (by omega), Option.bind_some, g2, Option.bind_some, if_pos rfl]
  simp only [reelkeeperlaw11_RecordAgain.j0]
  cases t with
  | false => rw [if_neg (by decide), if_pos trivial]
  | true =>
    obtain ⟨hl, _⟩ := hb3 rfl
    rw [if_pos rfl]
    by_cases c1 : b < 1
    · rw [if_pos c1, if_pos trivial]
    · rw [if_neg c1]
      by_cases c2 : b > 20
      · rw [if_pos (by simpa using c2)]
      · rw [if_neg (by simpa using c2)]
        obtain ⟨m, rfl⟩ := Int.eq_ofNat_of_zero_le (show 0 ≤ b by omega)
        exact again_ends l m (by omega) (by omega) hl l.length _ 0 (by omega) (by omega) (by omega) (by omega) (fun j hj => by simp at hj)
end Go.Proofs.Ytckoafndhccomaa.Pure
