/- RecordTells: blocks are grouped, records are blocks, and numbers go into as many records, as the document says: for all blocks, all records and every two ints. -/
import Derived.Test.YtckoafndhccomaaM0
import Derived.Test.YtckoafndhccomaaM7
import Derived.Test.YtckoafndhccomaaM8
import Derived.Test.YtckoafndhccomaaM11
import Derived.Test.YtckoafndhccomaaM13
import Derived.Test.YtckoafndhccomaaM16
import Derived.Test.YtckoafndhccomaaM17
import Derived.Test.YtckoafndhccomaaM18
import Derived.Test.YtckoafndhccomaaM19
import Derived.Test.YtckoafndhccomaaM20
import Derived.Test.YtckoafndhccomaaM22
import Derived.Test.YtckoafndhccomaaM24
import Derived.Test.YtckoafndhccomaaM25
import Derived.Test.YtckoafndhccomaaM26
import Derived.Test.YtckoafndhccomaaM27
import Derived.Test.YtckoafndhccomaaM28
import Derived.Test.YtckoafndhccomaaM29
namespace Go.Proofs.Ytckoafndhccomaa.Pure
open Go.RowKit Go.Proofs.Ytckoafndhccomaa.M Go.Proofs.YtckoafndhccomaaW.PrintWords Go.Proofs.YtckoafndhccomaaW.PrintLast
theorem same_self4 (l : List (List Int)) : reelkeeperref03_Same.f l l = some true := by unfold reelkeeperref03_Same.f; rw [decide_eq_true rfl]
theorem tells_ends (rs : List (List Int)) (n b : Int) (x y : Bool) (h0 : -9223372036854775808 ≤ n) (h1 : n ≤ 9223372036854775807) (hl : rs.length ≤ 60) (hw : ∀ r ∈ rs, r.length ≤ 9223372036854775807) : ∀ (d k : Nat) (i : Int), 0 ≤ i → i ≤ rs.length → rs.length - i = d → d + 1 < k → reelkeeperlaw11_RecordTells.l0 k b rs n x x y y true true i = some true := by
  intro d
  induction d with
  | zero =>
    intro k i h2 h3 hd hk
    obtain ⟨k, rfl⟩ : ∃ m, k = m + 1 := ⟨k - 1, by omega⟩
    simp only [reelkeeperlaw11_RecordTells.l0]
    rw [if_neg (by omega), if_pos trivial, if_pos (by simp), if_pos trivial, if_pos (by simp), record_Many.tells n b h0 h1, Option.bind_some, reelkeeperref11_Many.tells n b h0 h1 k (by omega), Option.bind_some, beq_self_eq_true]
  | succ d ih =>
    intro k i h2 h3 hd hk
    obtain ⟨k, rfl⟩ : ∃ m, k = m + 1 := ⟨k - 1, by omega⟩
    simp only [reelkeeperlaw11_RecordTells.l0]
    have hr : (rd_L1 rs i).length ≤ 9223372036854775807 := by
      rw [rd_L1_at _ _ (by omega)]
      exact hw _ (List.getElem_mem _)
    rw [if_pos (by omega), if_pos h2, refMay_f, Option.bind_some, recMay_f _ hr, Option.bind_some, if_neg (by simp), wrap_id (by omega) (by omega)]
    exact ih k (i + 1) (by omega) (by omega) (by omega) (by omega)
theorem RecordTells (l : List (List Int)) (b : Int) (rs : List (List Int)) (n : Int) (ok : RowsOk l) (hw : (Lit.int .i64 b).wf = true) (ok2 : RowsOk rs) (hw2 : (Lit.int .i64 n).wf = true) : ∃ q, reelkeeperlaw11_RecordTells.f q l b rs n = some true := by
  have hb := wf_range hw
  have hn := wf_range hw2
  have hm : l.length ≤ 9223372036854775807 := by have := ok.1; unfold maxLen at this; exact this
  have hm2 : rs.length ≤ 9223372036854775807 := by have := ok2.1; unfold maxLen at this; exact this
  obtain ⟨K1, h1⟩ := reelkeeperlaw11_awake.tells
  obtain ⟨t, ⟨K2, h2⟩, hb3⟩ := reelkeeperlaw03_Few.tells l hm
  obtain ⟨t2, ⟨K3, h3⟩, hb4⟩ := reelkeeperlaw11_FewRecs.tells rs hm2
  obtain ⟨K4, h4⟩ := reelkeeperref11_Group.tells l b hm
  by_cases hrs : rs.length ≤ 60
  · obtain ⟨K5, h5⟩ := reelkeeperref11_Blocks.tells rs hrs
    refine ⟨K1 + K2 + K3 + K4 + K5 + 100 + 1, ?_⟩
    unfold reelkeeperlaw11_RecordTells.f
    have g2 : reelkeeperlaw03_Few.f (K1 + K2 + K3 + K4 + K5 + 100 + 1) l = some t := h2 _ (by omega)
    have g3 : reelkeeperlaw11_FewRecs.f (K1 + K2 + K3 + K4 + K5 + 100 + 1) rs = some t2 := h3 _ (by omega)
    have g4 : reelkeeperref11_Group.f (K1 + K2 + K3 + K4 + K5 + 100) l b = some (groupAns l b) := h4 _ (by omega)
    have g5 : reelkeeperref11_Blocks.f (K1 + K2 + K3 + K4 + K5 + 100) rs = some (blocksAns rs) := h5 _ (by omega)
    rw [h1 _ (by omega), Option.bind_some, g2, Option.bind_some, g3, Option.bind_some, if_pos rfl]
    simp only [reelkeeperlaw11_RecordTells.j0]
    cases t with
    | false => rw [if_neg (by decide), if_pos trivial]
    | true =>
      rw [if_pos rfl]
      cases t2 with
      | false => rw [if_pos (by rfl)]
      | true =>
        rw [if_neg (by decide), group_ans, Option.bind_some, g4, Option.bind_some, blocks_ans _ (by omega), Option.bind_some, g5, Option.bind_some, same_self4, Option.bind_some, same_self4, Option.bind_some]
        exact tells_ends rs n b _ _ (by omega) (by omega) hrs (fun r hr => by have := (ok2.2 r hr).1; unfold maxLen at this; exact this) rs.length _ 0 (by omega) (by omega) (by omega) (by omega)
  · refine ⟨K1 + K2 + K3 + 1, ?_⟩
    unfold reelkeeperlaw11_RecordTells.f
    have g2 : reelkeeperlaw03_Few.f (K1 + K2 + K3 + 1) l = some t := h2 _ (by omega)
    have g3 : reelkeeperlaw11_FewRecs.f (K1 + K2 + K3 + 1) rs = some t2 := h3 _ (by omega)
    have e : t2 = false := by
      cases t2 with
      | false => rfl
      | true => exact absurd (hb4 rfl).1 hrs
    subst e
    rw [h1 _ (by omega), Option.bind_some, g2, Option.bind_some, g3, Option.bind_some, if_pos rfl]
    simp only [reelkeeperlaw11_RecordTells.j0]
    cases t with
    | false => rw [if_neg (by decide), if_pos trivial]
    | true => rw [if_pos rfl, if_pos (by rfl)]
end Go.Proofs.Ytckoafndhccomaa.Pure
