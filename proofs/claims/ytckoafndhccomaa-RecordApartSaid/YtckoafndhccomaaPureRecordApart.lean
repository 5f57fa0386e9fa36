/- RecordApart: two lists of as many blocks are grouped as the same records just if they are the same: for all blocks and every int. -/
import Derived.Test.YtckoafndhccomaaM0
import Derived.Test.YtckoafndhccomaaM5
import Derived.Test.YtckoafndhccomaaM11
import Derived.Test.YtckoafndhccomaaM15
import Derived.Test.YtckoafndhccomaaM21
import Derived.Test.YtckoafndhccomaaM25
import Derived.Test.YtckoafndhccomaaM27
import Derived.Test.YtckoafndhccomaaM31
import Derived.Test.YtckoafndhccomaaM32
import Derived.Test.YtckoafndhccomaaM33
import Derived.Test.YtckoafndhccomaaM42
import Derived.Test.YtckoafndhccomaaM47
namespace Go.Proofs.Ytckoafndhccomaa.Pure
open Go.RowKit Go.Proofs.Ytckoafndhccomaa.M Go.Proofs.YtckoafndhccomaaW.PrintWords Go.Proofs.YtckoafndhccomaaW.PrintLast
theorem strl_inj {a b : List Int} (ha : ∀ x ∈ a, 0 ≤ x ∧ x ≤ 255) (hb : ∀ x ∈ b, 0 ≤ x ∧ x ≤ 255) (h : strl a = strl b) : a = b := by
  have h1 : strOfNums a = strOfNums b := by
    unfold strl at h
    rw [ByteArray.toList_eq, ByteArray.toList_eq] at h
    generalize strOfNums a = x at h ⊢
    generalize strOfNums b = y at h ⊢
    cases x; cases y
    congr 1
    exact Array.ext' h
  rw [← bytes_of_nums a ha, ← bytes_of_nums b hb, h1]
theorem rows_inj : ∀ (l k : List (List Int)), (∀ x ∈ l, ∀ y ∈ x, 0 ≤ y ∧ y ≤ 255) → (∀ x ∈ k, ∀ y ∈ x, 0 ≤ y ∧ y ≤ 255) → l.map strl = k.map strl → l = k
  | [], [], _, _, _ => rfl
  | [], _ :: _, _, _, h => by cases h
  | _ :: _, [], _, _, h => by cases h
  | a :: l, b :: k, h1, h2, h => by
    rw [List.map_cons, List.map_cons, List.cons.injEq] at h
    rw [strl_inj (h1 a (List.mem_cons_self ..)) (h2 b (List.mem_cons_self ..)) h.1, rows_inj l k (fun x hx => h1 x (List.mem_cons_of_mem _ hx)) (fun x hx => h2 x (List.mem_cons_of_mem _ hx)) h.2]
theorem rec_bytes (l : List (List Int)) (b n : Nat) (h : ∀ x ∈ l, ∀ y ∈ x, 0 ≤ y ∧ y ≤ 255) : ∀ x ∈ groupOf l b n, ∀ y ∈ x, 0 ≤ y ∧ y ≤ 255 := by
  intro x hx y hy
  simp only [groupOf, List.mem_map, List.mem_range] at hx
  obtain ⟨i, _, rfl⟩ := hx
  unfold recOf at hy
  rcases List.mem_append.1 hy with h1 | h1
  · obtain ⟨z, hz, hy2⟩ := List.mem_flatten.1 h1
    exact h z (List.mem_of_mem_drop (List.mem_of_mem_take hz)) y hy2
  · rw [(List.mem_replicate.1 h1).2]; omega
theorem RecordApart (l k : List (List Int)) (b : Int) (ok : RowsOk l) (ok2 : RowsOk k) (hw : (Lit.int .i64 b).wf = true) : ∃ q, reelkeeperlaw11_RecordApart.f q l k b = some true := by
  have hb := wf_range hw
  have hm : l.length ≤ 9223372036854775807 := by have := ok.1; unfold maxLen at this; exact this
  have hm2 : k.length ≤ 9223372036854775807 := by have := ok2.1; unfold maxLen at this; exact this
  obtain ⟨K1, h1⟩ := reelkeeperlaw11_awake.tells
  obtain ⟨t, ⟨K2, h2⟩, hb3⟩ := reelkeeperlaw03_Few.tells l hm
  obtain ⟨t2, ⟨K3, h3⟩, hb4⟩ := reelkeeperlaw03_Few.tells k hm2
  refine ⟨K1 + K2 + K3 + 1, ?_⟩
  unfold reelkeeperlaw11_RecordApart.f
  have g2 : reelkeeperlaw03_Few.f (K1 + K2 + K3 + 1) l = some t := h2 _ (by omega)
  have g3 : reelkeeperlaw03_Few.f (K1 + K2 + K3 + 1) k = some t2 := h3 _ (by omega)
  rw [h1 _ (by omega), Option.bind_some, g2, Option.bind_some, g3, Option.bind_some, if_pos rfl]
  simp only [reelkeeperlaw11_RecordApart.j0]
  cases t with
  | false => rw [if_neg (by decide), if_pos trivial]
  | true =>
    rw [if_pos rfl]
    cases t2 with
    | false => rw [if_neg (by decide), if_pos trivial]
    | true =>
      obtain ⟨hl, _⟩ := hb3 rfl
      obtain ⟨hl2, _⟩ := hb4 rfl
      rw [if_pos rfl]
      by_cases c1 : (l.length : Int) = (k.length : Int)
      · rw [if_neg (by simpa using c1)]
        by_cases c2 : 1 ≤ b ∧ b ≤ 20
        · obtain ⟨m, rfl⟩ := Int.eq_ofNat_of_zero_le (show 0 ≤ b by omega)
          cases hal : (l.all fun b => b.length == 512) with
          | false =>
            have e1 : record_Group.f l (m : Int) = some ([], false) := by unfold record_Group.f; rw [if_neg (by rw [hal]; simp)]
            rw [e1, Option.bind_some]
            cases hg : record_Group.f k (m : Int) with
            | none => unfold record_Group.f at hg; split at hg <;> cases hg
            | some q =>
              unfold reelkeeperref03_Same.f
              rw [Option.bind_some, Option.bind_some, Option.bind_some, if_neg (by decide)]
          | true =>
            have al : ∀ x ∈ l, x.length = 512 := fun x hx => by simpa using List.all_eq_true.1 hal x hx
            have e1 := record_Group.tells l m (by omega) (by omega) (by omega) al
            rw [e1, Option.bind_some]
            cases hak : (k.all fun b => b.length == 512) with
            | false =>
              have e2 : record_Group.f k (m : Int) = some ([], false) := by unfold record_Group.f; rw [if_neg (by rw [hak]; simp)]
              unfold reelkeeperref03_Same.f
              rw [e2, Option.bind_some, Option.bind_some, Option.bind_some, if_pos rfl, if_neg (by decide)]
            | true =>
              have ak : ∀ x ∈ k, x.length = 512 := fun x hx => by simpa using List.all_eq_true.1 hak x hx
              have e2 := record_Group.tells k m (by omega) (by omega) (by omega) ak
              have wl : ∀ x ∈ l, ∀ y ∈ x, 0 ≤ y ∧ y ≤ 255 := fun x hx y hy => wf_byte ((ok.2 x hx).2 y hy)
              have wk : ∀ x ∈ k, ∀ y ∈ x, 0 ≤ y ∧ y ≤ 255 := fun x hx y hy => wf_byte ((ok2.2 x hx).2 y hy)
              have hlk : l.length = k.length := by omega
              have key : decide ((groupOf l m (partsOf l.length m)).map strl = (groupOf k m (partsOf k.length m)).map strl) = decide (l.map strl = k.map strl) := by
                by_cases hlk2 : l.map strl = k.map strl
                · have := rows_inj l k wl wk hlk2
                  subst this
                  rw [decide_eq_true rfl, decide_eq_true rfl]
                · rw [decide_eq_false hlk2, decide_eq_false]
                  intro hg
                  apply hlk2
                  have h5 := rows_inj _ _ (rec_bytes l m _ wl) (rec_bytes k m _ wk) hg
                  have h6 := congrArg blocksOf h5
                  rw [groupOf_flat l m (by omega) al, groupOf_flat k m (by omega) ak] at h6
                  unfold padded at h6
                  rw [(List.append_inj h6 hlk).1]
              unfold reelkeeperref03_Same.f
              rw [e2, Option.bind_some, Option.bind_some, Option.bind_some, if_pos rfl, if_pos rfl]
              rw [key, if_pos (by simp), groupOf_length]
              have h7 := parts_cover l.length m (by omega)
              by_cases h8 : l.length = 0
              · have h9 : partsOf l.length m = 0 := by rw [h8]; exact Nat.div_eq_of_lt (by omega)
                rw [h9, h8]; rfl
              · have h9 : partsOf l.length m ≠ 0 := fun e => by rw [e] at h7; omega
                rw [decide_eq_true (by omega), decide_eq_true (by omega)]; rfl
        · have e1 : record_Group.f l b = some ([], false) := by unfold record_Group.f; rw [if_neg (fun hh => c2 ⟨hh.1, hh.2.1⟩)]
          have e2 : record_Group.f k b = some ([], false) := by unfold record_Group.f; rw [if_neg (fun hh => c2 ⟨hh.1, hh.2.1⟩)]
          unfold reelkeeperref03_Same.f
          rw [e1, Option.bind_some, e2, Option.bind_some, Option.bind_some, Option.bind_some, if_neg (by decide)]
      · rw [if_pos (by simpa using c1)]
end Go.Proofs.Ytckoafndhccomaa.Pure
