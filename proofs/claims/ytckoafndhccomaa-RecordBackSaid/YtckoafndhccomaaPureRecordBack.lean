/- RecordBack: what is grouped is blocks again, and noughts behind, fewer than a record has; there are as many records as are told: for all blocks and every int. -/
import Derived.Test.YtckoafndhccomaaM0
import Derived.Test.YtckoafndhccomaaM5
import Derived.Test.YtckoafndhccomaaM11
import Derived.Test.YtckoafndhccomaaM15
import Derived.Test.YtckoafndhccomaaM21
import Derived.Test.YtckoafndhccomaaM27
import Derived.Test.YtckoafndhccomaaM31
import Derived.Test.YtckoafndhccomaaM32
import Derived.Test.YtckoafndhccomaaM33
import Derived.Test.YtckoafndhccomaaM42
import Derived.Test.YtckoafndhccomaaM51
import Derived.Test.YtckoafndhccomaaM52
namespace Go.Proofs.Ytckoafndhccomaa.Pure
open Go.RowKit Go.Proofs.Ytckoafndhccomaa.M Go.Proofs.YtckoafndhccomaaW.PrintWords Go.Proofs.YtckoafndhccomaaW.PrintLast
theorem same_self2 (l : List (List Int)) : reelkeeperref03_Same.f l l = some true := by unfold reelkeeperref03_Same.f; rw [decide_eq_true rfl]
theorem back_ends (l q : List (List Int)) (hq : ∀ j, l.length ≤ j → (hj : j < q.length) → q[j] = List.replicate 512 0) (hle : l.length ≤ q.length) (htk : q.take l.length = l) (hm : q.length ≤ 1000000) : ∀ (d k : Nat) (i : Int), (l.length : Int) ≤ i → i ≤ q.length → q.length - i = d → d < k → reelkeeperlaw11_RecordBack.l0 k l q i = some true := by
  intro d
  induction d with
  | zero =>
    intro k i h0 h1 hd hk
    obtain ⟨k, rfl⟩ : ∃ m, k = m + 1 := ⟨k - 1, by omega⟩
    simp only [reelkeeperlaw11_RecordBack.l0]
    rw [if_neg (by omega), if_pos (by omega), if_pos (by omega), Int.toNat_natCast, htk, same_self2]
    rfl
  | succ d ih =>
    intro k i h0 h1 hd hk
    obtain ⟨k, rfl⟩ : ∃ m, k = m + 1 := ⟨k - 1, by omega⟩
    simp only [reelkeeperlaw11_RecordBack.l0]
    have h2 : rd_L1 q i = List.replicate 512 0 := by
      rw [rd_L1_at _ _ (by omega)]
      exact hq _ (by omega) _
    rw [if_pos (by omega), if_pos (by omega), h2, block_Zero.tells, Option.bind_some, if_pos (by rw [List.all_eq_true]; exact fun x hx => by rw [(List.mem_replicate.1 hx).2]; rfl), wrap_id (by omega) (by omega)]
    exact ih k (i + 1) (by omega) (by omega) (by omega) (by omega)
theorem RecordBack (l : List (List Int)) (b : Int) (ok : RowsOk l) (hw : (Lit.int .i64 b).wf = true) : ∃ k, reelkeeperlaw11_RecordBack.f k l b = some true := by
  have hb := wf_range hw
  have hm : l.length ≤ 9223372036854775807 := by have := ok.1; unfold maxLen at this; exact this
  obtain ⟨K1, h1⟩ := reelkeeperlaw11_awake.tells
  obtain ⟨t, ⟨K2, h2⟩, hb3⟩ := reelkeeperlaw03_Few.tells l hm
  refine ⟨K1 + K2 + 2000, ?_⟩
  unfold reelkeeperlaw11_RecordBack.f
  have g2 : reelkeeperlaw03_Few.f (K1 + K2 + 2000) l = some t := h2 _ (by omega)
  rw [h1 _ (by omega), Option.bind_some, g2, Option.bind_some, if_pos rfl]
  simp only [reelkeeperlaw11_RecordBack.j0]
  cases t with
  | false => rw [if_pos (by rfl)]
  | true =>
    obtain ⟨hl, _⟩ := hb3 rfl
    rw [if_neg (by decide)]
    by_cases c : 1 ≤ b ∧ b ≤ 20 ∧ (l.all fun b => b.length == 512) = true
    · obtain ⟨m, rfl⟩ := Int.eq_ofNat_of_zero_le (show 0 ≤ b by omega)
      have hm1 : 1 ≤ m := by omega
      have hm2 : m ≤ 20 := by omega
      have al : ∀ x ∈ l, x.length = 512 := fun x hx => by simpa using List.all_eq_true.1 c.2.2 x hx
      have e1 := record_Group.tells l m hm1 hm2 (by omega) al
      have hpc := parts_cover l.length m hm1
      have hpl := padded_length l m hm1
      have hpn : partsOf l.length m ≤ m * partsOf l.length m := Nat.le_mul_of_pos_left _ hm1
      have e2 := record_Blocks.tells (groupOf l m (partsOf l.length m)) (by rw [groupOf_length]; omega) (groupOf_may l m hm1 hm2 al)
      rw [groupOf_flat l m hm1 al] at e2
      rw [e1, Option.bind_some, if_pos rfl, e2, Option.bind_some, if_pos rfl, record_Many.tells _ _ (by omega) (by omega), Option.bind_some, manyR_parts l.length m hm1 hm2]
      simp only [groupOf_length, hpl]
      rw [if_pos trivial, wrap_id (x := (m : Int) * (partsOf l.length m : Int)) (by rw [← Int.natCast_mul]; omega) (by rw [← Int.natCast_mul]; omega), if_pos (Int.natCast_mul _ _), if_neg (by omega), wrap_id (x := ((m * partsOf l.length m : Nat) : Int) - (l.length : Int)) (by omega) (by omega), decide_eq_false (by omega)]
      simp only [reelkeeperlaw11_RecordBack.j1]
      rw [if_neg (by decide)]
      refine back_ends l (padded l m) (fun j h3 hj => ?_) (by omega) ?_ (by omega) (m * partsOf l.length m - l.length) _ _ (by omega) (by omega) (by omega) (by omega)
      · have h5 : (padded l m)[j]? = some (List.replicate 512 0) := by
          rw [hpl] at hj
          unfold padded
          rw [List.getElem?_append_right h3, List.getElem?_replicate, if_pos (by omega)]
        rw [List.getElem?_eq_getElem hj] at h5
        exact Option.some.inj h5
      · unfold padded
        rw [List.take_left]
    · have e1 : record_Group.f l b = some ([], false) := by unfold record_Group.f; rw [if_neg (fun hh => c ⟨hh.1, hh.2.1, hh.2.2.2⟩)]
      rw [e1, Option.bind_some, if_neg (by decide), if_pos (by rfl), block_May.tells, Option.bind_some]
      cases hal : (l.all fun b => b.length == 512) with
      | false => rw [if_neg (by decide)]
      | true =>
        rw [if_pos rfl]
        by_cases c1 : b < 1
        · rw [if_pos c1]
        · have hc : ¬ (1 ≤ b ∧ b ≤ 20) := fun h => c ⟨h.1, h.2, hal⟩
          rw [if_neg c1, decide_eq_true (by omega)]
end Go.Proofs.Ytckoafndhccomaa.Pure
