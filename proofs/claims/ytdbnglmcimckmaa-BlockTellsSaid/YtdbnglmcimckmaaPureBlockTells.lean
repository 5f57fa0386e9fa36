/- BlockTells: blocks, texts and numbers are told as the document says: for every two lists of blocks, every text and every int. -/
import Derived.Test.YtdbnglmcimckmaaM0
import Derived.Test.YtdbnglmcimckmaaM4
import Derived.Test.YtdbnglmcimckmaaM5
import Derived.Test.YtdbnglmcimckmaaM7
import Derived.Test.YtdbnglmcimckmaaM8
import Derived.Test.YtdbnglmcimckmaaM9
import Derived.Test.YtdbnglmcimckmaaM10
import Derived.Test.YtdbnglmcimckmaaM13
import Derived.Test.YtdbnglmcimckmaaM16
import Derived.Test.YtdbnglmcimckmaaM17
import Derived.Test.YtdbnglmcimckmaaM18
import Derived.Test.YtdbnglmcimckmaaM19
import Derived.Test.YtdbnglmcimckmaaM20
import Derived.Test.YtdbnglmcimckmaaM21
import Derived.Test.YtdbnglmcimckmaaM22
import Derived.Test.YtdbnglmcimckmaaM23
import Derived.Test.YtdbnglmcimckmaaM24
import Derived.Test.YtdbnglmcimckmaaM25
import Derived.Test.YtdbnglmcimckmaaM26
import Derived.Test.YtdbnglmcimckmaaM27
import Derived.Test.YtdbnglmcimckmaaM28
namespace Go.Proofs.Ytdbnglmcimckmaa.Pure
open Go.RowKit Go.Proofs.Ytdbnglmcimckmaa.M Go.Proofs.YtdbnglmcimckmaaW.PrintWords Go.Proofs.YtdbnglmcimckmaaW.PrintLast
theorem strl_one {a b : List Int} (ha : ∀ x ∈ a, 0 ≤ x ∧ x ≤ 255) (hb : ∀ x ∈ b, 0 ≤ x ∧ x ≤ 255) (h : strl a = strl b) : a = b := by
  have e : strOfNums a = strOfNums b := by
    unfold strl at h
    rw [ByteArray.toList_eq, ByteArray.toList_eq] at h
    have h2 : (strOfNums a).data = (strOfNums b).data := Array.ext' (by simpa using h)
    cases hA : strOfNums a; cases hB : strOfNums b
    rw [hA, hB] at h2
    simp only at h2
    rw [h2]
  rw [← bytes_of_nums a ha, ← bytes_of_nums b hb, e]
theorem rows_one : ∀ (l k : List (List Int)), (∀ x ∈ l, ∀ y ∈ x, 0 ≤ y ∧ y ≤ 255) → (∀ x ∈ k, ∀ y ∈ x, 0 ≤ y ∧ y ≤ 255) → l.map strl = k.map strl → l = k
  | [], [], _, _, _ => rfl
  | [], _ :: _, _, _, h => by simp at h
  | _ :: _, [], _, _, h => by simp at h
  | a :: l, b :: k, h1, h2, h => by
    simp only [List.map_cons, List.cons.injEq] at h
    rw [strl_one (h1 a (List.mem_cons_self ..)) (h2 b (List.mem_cons_self ..)) h.1, rows_one l k (fun x hx => h1 x (List.mem_cons_of_mem _ hx)) (fun x hx => h2 x (List.mem_cons_of_mem _ hx)) h.2]
theorem same_one (l : List (List Int)) : reelkeeperref03_Same.f l l = some true := by unfold reelkeeperref03_Same.f; rw [decide_eq_true rfl]
theorem same_two (l k : List (List Int)) (h1 : RowsOk l) (h2 : RowsOk k) : reelkeeperref03_Same.f l k = some (decide (l = k)) := by
  unfold reelkeeperref03_Same.f
  congr 1
  by_cases h : l = k
  · rw [decide_eq_true h, decide_eq_true (by rw [h])]
  · rw [decide_eq_false h, decide_eq_false (fun e => h (rows_one l k (fun x hx y hy => wf_byte ((h1.2 x hx).2 y hy)) (fun x hx y hy => wf_byte ((h2.2 x hx).2 y hy)) e))]
theorem BlockTells (l k : List (List Int)) (s : ByteArray) (n : Int) (ok : RowsOk l) (ok2 : RowsOk k) (hs : s.size ≤ 140737488351232) (hw : (Lit.int .i64 n).wf = true) : ∃ q, reelkeeperlaw03_BlockTells.f q l k s n = some true := by
  -- the walk: reelkeeperlaw03_BlockTells.calls
  have hb := wf_range hw
  have hm : l.length ≤ 9223372036854775807 := by have := ok.1; unfold maxLen at this; exact this
  have hm2 : k.length ≤ 9223372036854775807 := by have := ok2.1; unfold maxLen at this; exact this
  obtain ⟨K1, h1⟩ := reelkeeperlaw03_awake.tells
  obtain ⟨b1, ⟨K2, h2⟩, hb1⟩ := reelkeeperlaw03_Few.tells l hm
  obtain ⟨b2, ⟨K3, h3⟩, hb2⟩ := reelkeeperlaw03_Few.tells k hm2
  by_cases hc : b1 = true ∧ b2 = true ∧ (s.size : Int) ≤ 5000
  · obtain ⟨rfl, rfl, hsz⟩ := hc
    have hl : l.length ≤ 1000000 := by have := (hb1 rfl).1; omega
    obtain ⟨q4, e4⟩ := reelkeeperref03_Text.tells l n hb.1 hb.2 hl
    obtain ⟨K4, h4⟩ := Ev.of (fun j => reelkeeperref03_Text.mono l n j) e4
    obtain ⟨q5, e5⟩ := reelkeeperref03_Cut.tells s (by omega)
    obtain ⟨K5, h5⟩ := Ev.of (fun j => reelkeeperref03_Cut.mono s j) e5
    obtain ⟨q6, e6⟩ := block_Zeros.tells n
    obtain ⟨K6, h6⟩ := Ev.of (fun j => block_Zeros.mono n j) e6
    obtain ⟨q7, e7⟩ := reelkeeperref03_Zeros.tells n
    obtain ⟨K7, h7⟩ := Ev.of (fun j => reelkeeperref03_Zeros.mono n j) e7
    obtain ⟨q8, e8⟩ := reelkeeperref03_May.tells l hm
    obtain ⟨K8, h8⟩ := Ev.of (fun j => reelkeeperref03_May.mono l j) e8
    obtain ⟨q9, e9⟩ := reelkeeperref03_Zero.tells (bytesOf s) (by rw [bytesOf_length]; omega)
    obtain ⟨K9, h9⟩ := Ev.of (fun j => reelkeeperref03_Zero.mono (bytesOf s) j) e9
    obtain ⟨K, hK⟩ : ∃ K, K = K1 + K2 + K3 + K4 + K5 + K6 + K7 + K8 + K9 := ⟨_, rfl⟩
    refine ⟨K, ?_⟩
    unfold reelkeeperlaw03_BlockTells.f
    rw [h1 K (by omega), Option.bind_some, show reelkeeperlaw03_Few.f K l = some true from h2 K (by omega), Option.bind_some, show reelkeeperlaw03_Few.f K k = some true from h3 K (by omega), Option.bind_some, if_pos ⟨rfl, rfl, rfl, hsz⟩]
    refine if_pos ⟨?_, ?_, ?_, ?_, ?_, ?_, ?_⟩
    · have ht := block_Text.tells l n hb.1 hb.2 hl
      have hr := h4 K (by omega)
      by_cases hcc : 0 ≤ n ∧ (l.all fun b => b.length == 512) = true ∧ manyI n = l.length
      · rw [if_pos hcc] at ht hr
        exact ⟨_, _, ht, hr⟩
      · rw [if_neg hcc] at ht hr
        exact ⟨_, _, ht, hr⟩
    · exact ⟨_, _, by unfold block_Cut.f; rw [if_pos (by omega)], h5 K (by omega), same_one _⟩
    · exact ⟨_, _, h6 K (by omega), h7 K (by omega), same_one _⟩
    · exact ⟨_, h8 K (by omega), block_May.tells l⟩
    · exact ⟨_, same_two l k ok ok2, rfl⟩
    · exact ⟨_, h9 K (by omega), block_Zero.tells _⟩
    · exact ⟨_, block_Many.tells n hb.1 hb.2, reelkeeperref03_Many.tells n hb.1 hb.2⟩
  · refine ⟨K1 + K2 + K3, ?_⟩
    unfold reelkeeperlaw03_BlockTells.f
    rw [h1 (K1 + K2 + K3) (by omega), Option.bind_some, show reelkeeperlaw03_Few.f (K1 + K2 + K3) l = some b1 from h2 _ (by omega), Option.bind_some, show reelkeeperlaw03_Few.f (K1 + K2 + K3) k = some b2 from h3 _ (by omega), Option.bind_some, if_neg (fun h => hc h.2)]
end Go.Proofs.Ytdbnglmcimckmaa.Pure
