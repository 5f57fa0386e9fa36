/- DriveTells: any drive may be, or not, and is, mounted, taken out, rewound, written, marked and read, what the document says: for every two drives, record and int. -/
import Derived.Test.YtpbfeegfkiegeaaM0
import Derived.Test.YtpbfeegfkiegeaaM4
import Derived.Test.YtpbfeegfkiegeaaM5
import Derived.Test.YtpbfeegfkiegeaaM8
import Derived.Test.YtpbfeegfkiegeaaM9
import Derived.Test.YtpbfeegfkiegeaaM10
import Derived.Test.YtpbfeegfkiegeaaM12
import Derived.Test.YtpbfeegfkiegeaaM13
import Derived.Test.YtpbfeegfkiegeaaM14
import Derived.Test.YtpbfeegfkiegeaaM15
import Derived.Test.YtpbfeegfkiegeaaM18
import Derived.Test.YtpbfeegfkiegeaaM19
import Derived.Test.YtpbfeegfkiegeaaM20
import Derived.Test.YtpbfeegfkiegeaaM21
import Derived.Test.YtpbfeegfkiegeaaM22
import Derived.Test.YtpbfeegfkiegeaaM23
import Derived.Test.YtpbfeegfkiegeaaM24
import Derived.Test.YtpbfeegfkiegeaaM25
import Derived.Test.YtpbfeegfkiegeaaM26
import Derived.Test.YtpbfeegfkiegeaaM27
import Derived.Test.YtpbfeegfkiegeaaM28
import Derived.Test.YtpbfeegfkiegeaaM29
import Derived.Test.YtpbfeegfkiegeaaM30
import Derived.Test.YtpbfeegfkiegeaaM31
import Derived.Test.YtpbfeegfkiegeaaM32
import Derived.Test.YtpbfeegfkiegeaaM33
import Derived.Test.YtpbfeegfkiegeaaM34
import Derived.Test.YtpbfeegfkiegeaaM35
namespace Go.Proofs.Ytpbfeegfkiegeaa.Pure
open Go.RowKit Go.Proofs.Ytpbfeegfkiegeaa.M Go.Proofs.YtpbfeegfkiegeaaW.PrintWords Go.Proofs.YtpbfeegfkiegeaaW.PrintLast
theorem few_loop (l : List S41) (i p : Int) (hm : l.length ≤ 9223372036854775807) (hx : ∀ x ∈ l, x.f1.length ≤ 9223372036854775807) : ∀ (n : Nat) (x : Int), 0 ≤ x → x ≤ (l.length : Int) → l.length - x.toNat ≤ n →
    ∃ t, (∃ K, ∀ k, K ≤ k → reelkeeperlaw13_Few.l0 k x l i p = some t) ∧ (t = true → l.length ≤ 15 ∧ ∀ j : Int, x ≤ j → j < (l.length : Int) → (rd_T41 l j).f1.length ≤ 30 ∧ ∀ y ∈ (rd_T41 l j).f1, y.length ≤ 12000) := by
  intro n
  induction n with
  | zero =>
    intro x h0 h1 h2
    refine ⟨decide ((l.length : Int) ≤ 15), ⟨2, fun k hk => ?_⟩, fun h => ⟨by have := of_decide_eq_true h; omega, fun j h3 h4 => by omega⟩⟩
    obtain ⟨k', rfl⟩ : ∃ k', k = k' + 1 + 1 := ⟨k - 2, by omega⟩
    simp only [reelkeeperlaw13_Few.l0]
    rw [if_neg (by omega)]
    simp only [reelkeeperlaw13_Few.j1]
    rw [if_neg (by decide)]
  | succ n ih =>
    intro x h0 h1 h2
    by_cases hlt : x < (l.length : Int)
    · by_cases h15 : x ≤ 15
      · have hmem : rd_T41 l x ∈ l := List.mem_of_getElem? (rd_at h0 hlt)
        obtain ⟨t1, ⟨K1, g1⟩, b1⟩ := reelkeeperlaw11_FewRecs.tells (rd_T41 l x).f1 (hx _ hmem)
        have hw : wrap64 (x + 1) = x + 1 := by unfold wrap64; omega
        cases t1 with
        | false =>
          refine ⟨false, ⟨K1 + 2, fun k hk => ?_⟩, fun h => by cases h⟩
          obtain ⟨k', rfl⟩ : ∃ k', k = k' + 1 + 1 := ⟨k - 2, by omega⟩
          simp only [reelkeeperlaw13_Few.l0]
          rw [if_pos hlt]
          simp only [reelkeeperlaw13_Few.j1]
          rw [if_pos (decide_eq_true h15), if_pos h0, if_pos hlt, (show reelkeeperlaw11_FewRecs.f k' (rd_T41 l x).f1 = some _ from g1 k' (by omega)), Option.bind_some, if_neg (by decide)]
        | true =>
          by_cases h30 : ((rd_T41 l x).f1.length : Int) > 30
          · refine ⟨false, ⟨K1 + 2, fun k hk => ?_⟩, fun h => by cases h⟩
            obtain ⟨k', rfl⟩ : ∃ k', k = k' + 1 + 1 := ⟨k - 2, by omega⟩
            simp only [reelkeeperlaw13_Few.l0]
            rw [if_pos hlt]
            simp only [reelkeeperlaw13_Few.j1]
            rw [if_pos (decide_eq_true h15), if_pos h0, if_pos hlt, (show reelkeeperlaw11_FewRecs.f k' (rd_T41 l x).f1 = some _ from g1 k' (by omega)), Option.bind_some, if_pos rfl, if_pos h30]
          · obtain ⟨t, ⟨K, g⟩, b⟩ := ih (x + 1) (by omega) (by omega) (by omega)
            refine ⟨t, ⟨K1 + K + 2, fun k hk => ?_⟩, fun h => ⟨(b h).1, fun j h3 h4 => ?_⟩⟩
            · obtain ⟨k', rfl⟩ : ∃ k', k = k' + 1 + 1 := ⟨k - 2, by omega⟩
              simp only [reelkeeperlaw13_Few.l0]
              rw [if_pos hlt]
              simp only [reelkeeperlaw13_Few.j1]
              rw [if_pos (decide_eq_true h15), if_pos h0, if_pos hlt, (show reelkeeperlaw11_FewRecs.f k' (rd_T41 l x).f1 = some _ from g1 k' (by omega)), Option.bind_some, if_pos rfl, if_neg h30, hw, g _ (by omega)]
            · by_cases e : j = x
              · subst e
                exact ⟨by omega, (b1 rfl).2⟩
              · exact (b h).2 j (by omega) h4
      · refine ⟨decide ((l.length : Int) ≤ 15), ⟨2, fun k hk => ?_⟩, fun h => by have := of_decide_eq_true h; omega⟩
        obtain ⟨k', rfl⟩ : ∃ k', k = k' + 1 + 1 := ⟨k - 2, by omega⟩
        simp only [reelkeeperlaw13_Few.l0]
        rw [if_pos hlt]
        simp only [reelkeeperlaw13_Few.j1]
        rw [if_neg (by rw [decide_eq_false h15]; decide)]
    · refine ⟨decide ((l.length : Int) ≤ 15), ⟨2, fun k hk => ?_⟩, fun h => ⟨by have := of_decide_eq_true h; omega, fun j h3 h4 => by omega⟩⟩
      obtain ⟨k', rfl⟩ : ∃ k', k = k' + 1 + 1 := ⟨k - 2, by omega⟩
      simp only [reelkeeperlaw13_Few.l0]
      rw [if_neg hlt]
      simp only [reelkeeperlaw13_Few.j1]
      rw [if_neg (by decide)]
theorem few_all {l : List S41} (h : ∀ j : Int, 0 ≤ j → j < (l.length : Int) → (rd_T41 l j).f1.length ≤ 30 ∧ ∀ y ∈ (rd_T41 l j).f1, y.length ≤ 12000) : ∀ x ∈ l, x.f1.length ≤ 30 ∧ ∀ y ∈ x.f1, y.length ≤ 12000 := by
  intro x hx
  obtain ⟨j, hj⟩ := List.getElem?_of_mem hx
  have hjl := (List.getElem?_eq_some_iff.1 hj).1
  have h1 := rd_at (l := l) (i := (j : Int)) (by omega) (by omega)
  rw [Int.toNat_natCast, hj] at h1
  obtain rfl := Option.some.inj h1
  exact h j (by omega) (by omega)
theorem few_tells (l : List S41) (i p : Int) (ok : DriveOk l i p) : ∃ t, (∃ K, ∀ k, K ≤ k → reelkeeperlaw13_Few.f k l i p = some t) ∧ (t = true → l.length ≤ 15 ∧ ∀ x ∈ l, x.f1.length ≤ 30 ∧ ∀ y ∈ x.f1, y.length ≤ 12000) := by
  have hm : l.length ≤ 9223372036854775807 := by have := ok.1; unfold maxLen at this; exact this
  obtain ⟨t, ⟨K, g⟩, b⟩ := few_loop l i p hm (fun x hx => by have := (ok.2.1 x hx).2.1; unfold maxLen at this; exact this) l.length 0 (Int.le_refl _) (by omega) (by omega)
  exact ⟨t, ⟨K, fun k hk => g k hk⟩, fun h => ⟨(b h).1, few_all (b h).2⟩⟩
theorem ownable_of {l : List S41} {n : Nat} (h0 : l.length ≤ 1000) (hn : n ≤ 1000) (h1 : ∀ x ∈ l, x.f1.length ≤ n ∧ ∀ y ∈ x.f1, y.length ≤ 12000) : ownable l :=
  ⟨h0, List.all_eq_true.2 (fun x hx => by
    rw [Bool.and_eq_true]
    exact ⟨decide_eq_true (by have := (h1 x hx).1; omega), List.all_eq_true.2 (fun y hy => decide_eq_true (by have := (h1 x hx).2 y hy; omega))⟩)⟩
theorem own_tells {l : List S41} {i p : Int} (h : ownable l) : drive_own.f l i p = some (l, i, p) := by unfold drive_own.f; rw [if_pos h]
theorem mount_out {l : List S41} {i p n : Int} (h : ownable l) (hm : mayD l i p = true) (hn : n < 0 ∨ n ≥ (l.length : Int)) : drive_Mount.f l i p n = some (l, i, p, 9) := by
  unfold drive_Mount.f drive_May.f
  rw [own_tells h, Option.bind_some, Option.bind_some, if_pos hm]
  by_cases h0 : n < 0
  · rw [if_pos h0]
  · rw [if_neg h0, if_pos (by omega)]
theorem mount_in {l : List S41} {i p n : Int} (h : ownable l) (hm : mayD l i p = true) (h0 : 0 ≤ n) (h1 : n < (l.length : Int)) : drive_Mount.f l i p n = some (l, n, 0, 0) := by
  unfold drive_Mount.f drive_May.f
  rw [own_tells h, Option.bind_some, Option.bind_some, if_pos hm, if_neg (by omega), if_neg (by omega)]
theorem new_ok {l : List S41} (h : ownable l) (hm : mayD l (-1) 0 = true) : drive_New.f l = some (l, -1, 0, true) := by
  unfold drive_New.f drive_May.f
  rw [own_tells h, Option.bind_some, Option.bind_some, if_pos hm]
theorem unmount_in {l : List S41} {i p : Int} (h : ownable l) (hm : mayD l i p = true) (hi : i ≠ -1) : drive_Unmount.f l i p = some (l, -1, 0, 0) := by
  unfold drive_Unmount.f unmountD
  rw [if_pos h, if_pos hm, if_neg hi]
theorem unmount_out {l : List S41} {p : Int} (h : ownable l) (hm : mayD l (-1) p = true) : drive_Unmount.f l (-1) p = some (l, -1, p, 9) := by
  unfold drive_Unmount.f unmountD
  rw [if_pos h, if_pos hm, if_pos rfl]
theorem rewind_in {l : List S41} {i p : Int} (h : ownable l) (hm : mayD l i p = true) (hi : i ≠ -1) : drive_Rewind.f l i p = some (l, i, 0, 0) := by
  unfold drive_Rewind.f rewindD
  rw [if_pos h, if_pos hm, if_neg hi]
theorem same_self (l : List S41) (i p : Int) : drive_Same.f l i p l i p = some true := by
  unfold drive_Same.f
  rw [decide_eq_true rfl, decide_eq_true rfl, sameL_self]
  rfl
theorem mayD_of {l : List S41} {i p : Int} (h0 : l.length ≤ 12) (h1 : l.all mayR = true) (h2 : -1 ≤ i) (h3 : i < (l.length : Int)) (h4 : 0 ≤ p) (h5 : p ≤ mostD l i) : mayD l i p = true := by
  unfold mayD
  simp only [Bool.and_eq_true, decide_eq_true_eq]
  exact ⟨by omega, h1, h2, h3, h4, h5⟩
theorem mostD_nonneg (l : List S41) (i : Int) : 0 ≤ mostD l i := by
  unfold mostD
  split <;> omega
theorem mayD_zero {l : List S41} {i p n : Int} (hm : mayD l i p = true) (h0 : -1 ≤ n) (h1 : n < (l.length : Int)) : mayD l n 0 = true := by
  obtain ⟨a, b, _, _, _, _⟩ := mayD_parts hm
  exact mayD_of a b h0 h1 (Int.le_refl _) (mostD_nonneg l n)
theorem zeros_may : recMay (List.replicate 512 0) = true := by
  unfold recMay
  rw [List.length_replicate]
  rfl
theorem awake_tells : reelkeeperlaw13_awake.f = some true := by
  have hz := zeros_may
  have hzl : (List.replicate 512 (0 : Int)).length = 512 := List.length_replicate
  have hNew : tape_New.f 2 = some (2, [], false, true) := rfl
  unfold reelkeeperlaw13_awake.f
  rw [hNew, Option.bind_some]
  obtain ⟨z, hzz⟩ : ∃ z, List.replicate 512 (0 : Int) = z := ⟨_, rfl⟩
  rw [hzz] at hz hzl ⊢
  dsimp only
  obtain ⟨t0, ht0⟩ : ∃ t : S41, t = ⟨2, [], false⟩ := ⟨_, rfl⟩
  obtain ⟨t1, ht1⟩ : ∃ t : S41, t = ⟨2, [z], false⟩ := ⟨_, rfl⟩
  obtain ⟨t2, ht2⟩ : ∃ t : S41, t = ⟨2, [z], true⟩ := ⟨_, rfl⟩
  have m0 : mayT 2 [] = true := rfl
  have m1 : mayT 2 [z] = true := by unfold mayT; simp [hz]
  have one_own : ∀ t : S41, t.f1 = [] ∨ t.f1 = [z] → ownable [t] := fun t h => ownable_of (n := 1) (by simp) (by omega) (fun x hx => by
    obtain rfl : x = t := by simpa using hx
    rcases h with h | h <;> rw [h] <;> simp; omega)
  have one_may : ∀ (t : S41) (i p : Int), mayT t.f0 t.f1 = true → (i = -1 ∧ p = 0 ∨ i = 0 ∧ 0 ≤ p ∧ p ≤ (t.f1.length : Int)) → mayD [t] i p = true := fun t i p h hi => by
    refine mayD_of (by simp) (by simp [mayR, h]) (by omega) (by simp; omega) (by omega) ?_
    unfold mostD
    rcases hi with ⟨rfl, rfl⟩ | ⟨rfl, h2, h3⟩
    · rw [if_pos rfl]; omega
    · rw [if_neg (by decide)]; exact h3
  have o0 := one_own t0 (.inl (by rw [ht0]))
  have o1 := one_own t1 (.inr (by rw [ht1]))
  have o2 := one_own t2 (.inr (by rw [ht2]))
  have a0 := one_may t0 (-1) 0 (by rw [ht0]; exact m0) (.inl ⟨rfl, rfl⟩)
  have a1 := one_may t0 0 0 (by rw [ht0]; exact m0) (.inr ⟨rfl, by omega, by omega⟩)
  have a2 := one_may t1 0 1 (by rw [ht1]; exact m1) (.inr ⟨rfl, by omega, by rw [ht1]; simp⟩)
  have a3 := one_may t1 0 0 (by rw [ht1]; exact m1) (.inr ⟨rfl, by omega, by omega⟩)
  have a4 := one_may t2 0 1 (by rw [ht2]; exact m1) (.inr ⟨rfl, by omega, by rw [ht2]; simp⟩)
  have a5 := one_may t2 (-1) 0 (by rw [ht2]; exact m1) (.inl ⟨rfl, rfl⟩)
  have r0 : rd_T41 [t0] 0 = t0 := rfl
  have r1 : rd_T41 [t1] 0 = t1 := rfl
  have r2 : rd_T41 [t2] 0 = t2 := rfl
  have c0 : cutT 2 [] false 0 = (2, [], false, 0) := by unfold cutT; rw [if_pos m0, if_neg (by simp)]; rfl
  have c1 : cutT 2 [z] false 1 = (2, [z], false, 0) := by unfold cutT; rw [if_pos m1, if_neg (by simp)]; rfl
  have p0 : putT t0 0 z = (2, [z], false, 0) := by
    unfold putT
    rw [ht0]
    dsimp only
    rw [c0]
    dsimp only
    unfold writeT
    rw [if_pos m0, if_pos hz, if_neg (by simp)]
    rfl
  have g1 : getT t1 0 = (z, 0) := by
    unfold getT readT
    rw [ht1]
    dsimp only
    rw [if_pos m1, if_neg (by decide), if_neg (by simp)]
    rfl
  have k1 : markS t1 1 = t2 := by
    unfold markS
    rw [ht1]
    dsimp only
    rw [c1]
    dsimp only
    unfold closeT
    rw [if_pos m1, if_neg (by decide), ht2]
  have f0 : drive_New.f [t0] = some ([t0], -1, 0, true) := new_ok o0 a0
  have f1 : drive_Read.f [t0] (-1) 0 = some ([t0], -1, 0, [], 9) := by unfold drive_Read.f readD; rw [if_pos o0, if_pos a0, if_pos rfl]
  have f2 : drive_Mount.f [t0] (-1) 0 0 = some ([t0], 0, 0, 0) := mount_in o0 a0 (by omega) (by simp)
  have f3 : drive_Write.f [t0] 0 0 z = some ([t1], 0, 1, 0) := by
    unfold drive_Write.f writeD
    rw [if_pos ⟨o0, by omega⟩, if_pos a1, if_neg (by decide), if_pos hz, r0, p0, if_pos rfl, ht1]
    rfl
  have f4 : drive_Rewind.f [t1] 0 1 = some ([t1], 0, 0, 0) := rewind_in o1 a2 (by decide)
  have f5 : drive_Read.f [t1] 0 0 = some ([t1], 0, 1, z, 0) := by
    unfold drive_Read.f readD
    rw [if_pos o1, if_pos a3, if_neg (by decide), r1, g1, if_pos rfl]
    rfl
  have f6 : drive_Mark.f [t1] 0 1 = some ([t2], 0, 1, 0) := by
    unfold drive_Mark.f markD
    rw [if_pos o1, if_pos a2, if_neg (by decide), r1, k1]
    rfl
  have f7 : drive_Unmount.f [t2] 0 1 = some ([t2], -1, 0, 0) := unmount_in o2 a4 (by decide)
  rw [← ht0, f0, Option.bind_some, f1, Option.bind_some, f2, Option.bind_some, if_pos (by decide), f3, Option.bind_some, f4, Option.bind_some, f5, Option.bind_some, f6, Option.bind_some, f7, Option.bind_some]
  dsimp only
  rw [if_pos rfl, if_pos rfl, if_pos rfl, if_pos rfl, if_pos rfl, if_pos rfl, if_pos rfl, if_pos (by rw [hzl]; rfl), if_pos rfl, if_pos (by simp), r2, if_pos (by rw [ht2]), if_pos rfl, if_pos rfl]
  unfold drive_May.f
  rw [a5, Option.bind_some, if_pos rfl, same_self, Option.bind_some]
theorem mayT_parts {a : Int} {l : List (List Int)} (h : mayT a l = true) : 0 ≤ a ∧ a ≤ 200 ∧ (l.length : Int) ≤ a ∧ l.all recMay = true := by
  unfold mayT at h
  simpa only [Bool.and_eq_true, decide_eq_true_eq] using h
theorem mayT_of {a : Int} {l : List (List Int)} (h0 : 0 ≤ a) (h1 : a ≤ 200) (h2 : (l.length : Int) ≤ a) (h3 : l.all recMay = true) : mayT a l = true := by
  unfold mayT
  simp only [Bool.and_eq_true, decide_eq_true_eq]
  exact ⟨h0, h1, h2, h3⟩
theorem mayT_snoc {a : Int} {l : List (List Int)} {r : List Int} (h : mayT a l = true) (hr : recMay r = true) (hn : (l.length : Int) ≠ a) : mayT a (l ++ [r]) = true := by
  obtain ⟨h0, h1, h2, h3⟩ := mayT_parts h
  refine mayT_of h0 h1 ?_ ?_
  · rw [List.length_append, List.length_singleton]; omega
  · rw [List.all_append, h3, List.all_cons, List.all_nil, hr]; rfl
theorem mayT_take {a : Int} {l : List (List Int)} (h : mayT a l = true) (n : Nat) : mayT a (l.take n) = true := by
  obtain ⟨h0, h1, h2, h3⟩ := mayT_parts h
  refine mayT_of h0 h1 ?_ ?_
  · rw [List.length_take]; omega
  · rw [List.all_eq_true] at h3 ⊢
    exact fun x hx => h3 x (List.mem_of_mem_take hx)
theorem mayT_at {l : List S41} {i p j : Int} (hm : mayD l i p = true) (h0 : 0 ≤ j) (h1 : j < (l.length : Int)) : mayT (rd_T41 l j).f0 (rd_T41 l j).f1 = true :=
  List.all_eq_true.1 (mayD_parts hm).2.1 _ (List.mem_of_getElem? (rd_at h0 h1))
theorem cut_at {x : S41} {p : Int} (hx : mayT x.f0 x.f1 = true) (h0 : 0 ≤ p) (h1 : p ≤ (x.f1.length : Int)) : cutT x.f0 x.f1 x.f2 p = (x.f0, x.f1.take p.toNat, false, 0) := by
  unfold cutT
  rw [if_pos hx, if_neg (by omega)]
theorem set_mem {l : List S41} {n : Nat} {x y : S41} (h : y ∈ l.set n x) : y = x ∨ y ∈ l := by
  obtain ⟨j, hj⟩ := List.getElem?_of_mem h
  by_cases e : j = n
  · subst e
    have hjl := (List.getElem?_eq_some_iff.1 hj).1
    rw [List.length_set] at hjl
    rw [List.getElem?_set_self hjl] at hj
    exact .inl (Option.some.inj hj).symm
  · rw [List.getElem?_set_ne (Ne.symm e)] at hj
    exact .inr (List.mem_of_getElem? hj)
theorem rd_set {l : List S41} {i : Int} {x : S41} (h0 : 0 ≤ i) (h1 : i < (l.length : Int)) : rd_T41 (l.set i.toNat x) i = x := by
  have h2 := rd_at (l := l.set i.toNat x) (i := i) h0 (by rw [List.length_set]; exact h1)
  rw [List.getElem?_set_self (by omega)] at h2
  exact (Option.some.inj h2).symm
theorem put_ok {x : S41} {p : Int} {z : List Int} (hx : mayT x.f0 x.f1 = true) (h0 : 0 ≤ p) (h1 : p ≤ (x.f1.length : Int)) (hz : recMay z = true) (hp : p ≠ x.f0) : putT x p z = (x.f0, x.f1.take p.toNat ++ [z], false, 0) := by
  unfold putT
  rw [cut_at hx h0 h1]
  dsimp only
  unfold writeT
  rw [if_pos (mayT_take hx _), if_pos hz, if_neg (by rw [List.length_take]; simp; omega)]
theorem put_full {x : S41} {p : Int} {z : List Int} (hx : mayT x.f0 x.f1 = true) (h0 : 0 ≤ p) (h1 : p ≤ (x.f1.length : Int)) (hz : recMay z = true) (hp : p = x.f0) : (putT x p z).2.2.2 = 8 := by
  unfold putT
  rw [cut_at hx h0 h1]
  dsimp only
  unfold writeT
  rw [if_pos (mayT_take hx _), if_pos hz, if_pos (.inr (by rw [List.length_take]; omega))]
theorem mayD_put {l : List S41} {i p : Int} {z : List Int} (hm : mayD l i p = true) (hi : i ≠ -1) (hz : recMay z = true) (hp : p ≠ (rd_T41 l i).f0) :
    mayD (l.set i.toNat ⟨(rd_T41 l i).f0, (rd_T41 l i).f1.take p.toNat ++ [z], false⟩) i (p + 1) = true := by
  obtain ⟨a, b, _, d, _, _⟩ := mayD_parts hm
  obtain ⟨h0, h1, h2, h3⟩ := mayD_in hm hi
  have hx := mayT_at hm h0 h1
  refine mayD_of (by rw [List.length_set]; exact a) (List.all_eq_true.2 (fun y hy => ?_)) (by omega) (by rw [List.length_set]; exact d) (by omega) ?_
  · rcases set_mem hy with rfl | hy
    · exact mayT_snoc (mayT_take hx _) hz (by show ((List.take p.toNat (rd_T41 l i).f1).length : Int) ≠ (rd_T41 l i).f0; rw [List.length_take]; omega)
    · exact List.all_eq_true.1 b y hy
  · unfold mostD
    rw [if_neg hi, rd_set h0 h1]
    show p + 1 ≤ (((rd_T41 l i).f1.take p.toNat ++ [z]).length : Int)
    rw [List.length_append, List.length_take, List.length_singleton]
    omega
theorem refMay_f (r : List Int) : reelkeeperref11_May.f r = some (recMay r) := by
  unfold reelkeeperref11_May.f recMay
  by_cases h1 : (r.length : Int) ≥ 512
  · rw [if_pos h1]
    by_cases h2 : (r.length : Int) ≤ 10240
    · rw [if_pos h2]
      by_cases h3 : r.length % 512 = 0
      · rw [decide_eq_true h3, decide_eq_true (show 1 ≤ r.length / 512 by omega), decide_eq_true (show r.length / 512 ≤ 20 by omega), show ((r.length : Int) % 512) = 0 by omega]; rfl
      · rw [decide_eq_false h3, Bool.false_and]
        congr 1
        rw [beq_eq_false_iff_ne]
        omega
    · rw [if_neg h2]
      by_cases h3 : r.length % 512 = 0
      · rw [decide_eq_false (show ¬ r.length / 512 ≤ 20 by omega), Bool.and_false, Bool.and_false]
      · rw [decide_eq_false h3]; rfl
  · rw [if_neg h1]
    by_cases h3 : 1 ≤ r.length / 512
    · omega
    · rw [decide_eq_false h3, Bool.false_and, Bool.and_false]
theorem rm12_loop (a : Int) (l : List (List Int)) (b : Bool) (hl : l.length ≤ 1000) : ∀ (n : Nat) (x : Int) (k : Nat), 0 ≤ x → x ≤ (l.length : Int) → l.length - x.toNat ≤ n → n + 1 ≤ k → reelkeeperref12_May.l0 k x a l b = some ((l.drop x.toNat).all recMay) := by
  intro n
  induction n with
  | zero =>
    intro x k h0 h1 h2 hk
    obtain ⟨k', rfl⟩ : ∃ k', k = k' + 1 := ⟨k - 1, by omega⟩
    rw [reelkeeperref12_May.l0]
    rw [if_neg (by omega), List.drop_of_length_le (by omega)]
    rfl
  | succ n ih =>
    intro x k h0 h1 h2 hk
    obtain ⟨k', rfl⟩ : ∃ k', k = k' + 1 := ⟨k - 1, by omega⟩
    rw [reelkeeperref12_May.l0]
    by_cases hlt : x < (l.length : Int)
    · have hw : wrap64 (x + 1) = x + 1 := by unfold wrap64; omega
      have hrd : rd_L1 l x = l[x.toNat] := by unfold rd_L1; rw [List.getD_eq_getElem?_getD, List.getElem?_eq_getElem (by omega : x.toNat < l.length)]; rfl
      rw [if_pos hlt, if_pos h0, refMay_f, Option.bind_some, List.drop_eq_getElem_cons (by omega : x.toNat < l.length), List.all_cons, hrd, hw]
      cases recMay l[x.toNat] with
      | false => rw [if_neg (by decide), Bool.false_and]
      | true => rw [if_pos rfl, Bool.true_and, ih (x + 1) k' (by omega) (by omega) (by omega) (by omega), show (x + 1).toNat = x.toNat + 1 by omega]
    · rw [if_neg hlt, List.drop_of_length_le (by omega)]
      rfl
theorem rm12 (a : Int) (l : List (List Int)) (b : Bool) (hl : l.length ≤ 1000) (k : Nat) (hk : l.length + 2 ≤ k) : reelkeeperref12_May.f k a l b = some (mayT a l) := by
  obtain ⟨k', rfl⟩ : ∃ k', k = k' + 1 := ⟨k - 1, by omega⟩
  unfold reelkeeperref12_May.f mayT
  simp only [reelkeeperref12_May.j0]
  by_cases h0 : a < 0
  · rw [if_pos h0, if_pos trivial, decide_eq_false (by omega : ¬ 0 ≤ a), Bool.false_and]
  · rw [if_neg h0, decide_eq_true (by omega : 0 ≤ a), Bool.true_and]
    by_cases h1 : a > 200
    · rw [if_pos h1, if_pos trivial, decide_eq_false (by omega : ¬ a ≤ 200), Bool.false_and]
    · rw [if_neg h1, decide_eq_true (by omega : a ≤ 200), Bool.true_and]
      by_cases h2 : (l.length : Int) > a
      · rw [decide_eq_true h2, if_pos rfl, decide_eq_false (by omega : ¬ (l.length : Int) ≤ a), Bool.false_and]
      · rw [decide_eq_false h2, if_neg (by decide), decide_eq_true (by omega : (l.length : Int) ≤ a), Bool.true_and, rm12_loop a l b hl l.length 0 k' (Int.le_refl _) (by omega) (by omega) (by omega)]
        rfl
theorem rm13_loop (l : List S41) (i p : Int) (hi1 : i < (l.length : Int)) (hl : l.length ≤ 1000) (hx : ∀ x ∈ l, x.f1.length ≤ 100) : ∀ (n : Nat) (x : Int) (k : Nat), 0 ≤ x → x ≤ (l.length : Int) → l.length - x.toNat ≤ n → n + 103 ≤ k →
    reelkeeperref13_May.l0 k x l i p = some ((l.drop x.toNat).all mayR && (if i < 0 then p == 0 else decide (p ≤ ((rd_T41 l i).f1.length : Int)))) := by
  have fin : ∀ (x : Int) (k : Nat), ¬ x < (l.length : Int) → 1 ≤ k → reelkeeperref13_May.l0 k x l i p = some ((l.drop x.toNat).all mayR && (if i < 0 then p == 0 else decide (p ≤ ((rd_T41 l i).f1.length : Int)))) := by
    intro x k hx hk
    obtain ⟨k', rfl⟩ : ∃ k', k = k' + 1 := ⟨k - 1, by omega⟩
    rw [reelkeeperref13_May.l0]
    rw [if_neg hx, List.drop_of_length_le (by omega), List.all_nil, Bool.true_and]
    by_cases h : i < 0
    · rw [if_pos h, if_pos h]
    · rw [if_neg h, if_neg h, if_pos (by omega), if_pos hi1]
  intro n
  induction n with
  | zero => intro x k h0 h1 h2 hk; exact fin x k (by omega) (by omega)
  | succ n ih =>
    intro x k h0 h1 h2 hk
    by_cases hlt : x < (l.length : Int)
    · obtain ⟨k', rfl⟩ : ∃ k', k = k' + 1 := ⟨k - 1, by omega⟩
      have hw : wrap64 (x + 1) = x + 1 := by unfold wrap64; omega
      have hg := rd_at h0 hlt
      have hmem : rd_T41 l x ∈ l := List.mem_of_getElem? hg
      have hd : l.drop x.toNat = rd_T41 l x :: l.drop (x.toNat + 1) := by
        rw [List.drop_eq_getElem_cons (by omega : x.toNat < l.length)]
        congr 1
        have h9 := List.getElem?_eq_getElem (by omega : x.toNat < l.length)
        rw [hg] at h9
        exact (Option.some.inj h9).symm
      rw [reelkeeperref13_May.l0]
      rw [if_pos hlt, if_pos h0, rm12 _ _ _ (by have := hx _ hmem; omega) k' (by have := hx _ hmem; omega), Option.bind_some, hd, List.all_cons, hw]
      show (if mayR (rd_T41 l x) = true then _ else _) = _
      cases mayR (rd_T41 l x) with
      | false => rw [if_neg (by decide), Bool.false_and, Bool.false_and]
      | true => rw [if_pos rfl, Bool.true_and, ih (x + 1) k' (by omega) (by omega) (by omega) (by omega), show (x + 1).toNat = x.toNat + 1 by omega]
    · exact fin x k hlt (by omega)
theorem rm13 (l : List S41) (i p : Int) (hl : l.length ≤ 100) (hx : ∀ x ∈ l, x.f1.length ≤ 100) (k : Nat) (hk : 300 ≤ k) : reelkeeperref13_May.f k l i p = some (mayD l i p) := by
  obtain ⟨k', rfl⟩ : ∃ k', k = k' + 1 := ⟨k - 1, by omega⟩
  unfold reelkeeperref13_May.f mayD
  simp only [reelkeeperref13_May.j0]
  by_cases h0 : (l.length : Int) > 12
  · rw [if_pos h0, if_pos trivial, decide_eq_false (by omega : ¬ (l.length : Int) ≤ 12), Bool.false_and]
  · rw [if_neg h0, decide_eq_true (by omega : (l.length : Int) ≤ 12), Bool.true_and]
    by_cases h1 : i < -1
    · rw [if_pos h1, if_pos trivial, decide_eq_false (by omega : ¬ -1 ≤ i), Bool.false_and, Bool.and_false]
    · rw [if_neg h1, decide_eq_true (by omega : -1 ≤ i), Bool.true_and]
      by_cases h2 : i ≥ (l.length : Int)
      · rw [if_pos h2, if_pos trivial, decide_eq_false (by omega : ¬ i < (l.length : Int)), Bool.false_and, Bool.and_false]
      · rw [if_neg h2, decide_eq_true (by omega : i < (l.length : Int)), Bool.true_and]
        by_cases h3 : p < 0
        · rw [decide_eq_true h3, if_pos rfl, decide_eq_false (by omega : ¬ 0 ≤ p), Bool.false_and, Bool.and_false]
        · rw [decide_eq_false h3, if_neg (by decide), decide_eq_true (by omega : 0 ≤ p), Bool.true_and, rm13_loop l i p (by omega) (by omega) hx l.length 0 k' (Int.le_refl _) (by omega) (by omega) (by omega)]
          show some (l.all mayR && _) = some (l.all mayR && _)
          congr 2
          unfold mostD
          by_cases h4 : i < 0
          · rw [if_pos h4, if_pos (by omega)]
            by_cases h5 : p = 0
            · rw [h5]; rfl
            · rw [beq_eq_false_iff_ne.2 h5, decide_eq_false (by omega)]
          · rw [if_neg h4, if_neg (by omega)]
theorem mounted_is (l : List S41) (i p : Int) (hl : l.length ≤ 100) (hx : ∀ x ∈ l, x.f1.length ≤ 100) (k : Nat) (hk : 300 ≤ k) : reelkeeperref13_mounted.f k l i p = some (if mayD l i p = true then (if i = -1 then 9 else 0) else 1) := by
  unfold reelkeeperref13_mounted.f
  rw [rm13 l i p hl hx k hk, Option.bind_some]
  cases hm : mayD l i p with
  | false => rw [if_neg (by decide), if_neg (by decide)]
  | true =>
    have h1 := (mayD_parts hm).2.2.1
    rw [if_pos rfl, if_pos rfl]
    by_cases hi : i = -1
    · rw [if_pos (by omega), if_pos hi]
    · rw [if_neg (by omega), if_neg hi]
theorem same_mount {l : List S41} {i p n : Int} (ho : ownable l) (hl : l.length ≤ 100) (hx : ∀ x ∈ l, x.f1.length ≤ 100) (k : Nat) (hk : 300 ≤ k) : ∃ a b c d, drive_Mount.f l i p n = some (a, b, c, d) ∧ reelkeeperref13_Mount.f k l i p n = some (a, b, c, d) := by
  unfold reelkeeperref13_Mount.f
  rw [rm13 l i p hl hx k hk, Option.bind_some]
  cases hm : mayD l i p with
  | false =>
    refine ⟨l, i, p, 1, ?_, by rw [if_neg (by decide)]⟩
    unfold drive_Mount.f drive_May.f
    rw [own_tells ho, Option.bind_some, Option.bind_some, hm, if_neg (by decide)]
  | true =>
    rw [if_pos rfl]
    by_cases h0 : n < 0
    · exact ⟨l, i, p, 9, mount_out ho hm (.inl h0), by rw [if_pos h0]⟩
    · rw [if_neg h0]
      by_cases h1 : n ≥ (l.length : Int)
      · exact ⟨l, i, p, 9, mount_out ho hm (.inr h1), by rw [if_pos h1]⟩
      · exact ⟨l, n, 0, 0, mount_in ho hm (by omega) (by omega), by rw [if_neg h1]⟩
theorem same_unmount {l : List S41} {i p : Int} (ho : ownable l) (hl : l.length ≤ 100) (hx : ∀ x ∈ l, x.f1.length ≤ 100) (k : Nat) (hk : 300 ≤ k) : ∃ a b c d, drive_Unmount.f l i p = some (a, b, c, d) ∧ reelkeeperref13_Unmount.f k l i p = some (a, b, c, d) := by
  unfold reelkeeperref13_Unmount.f drive_Unmount.f unmountD
  rw [mounted_is l i p hl hx k hk, Option.bind_some, if_pos ho]
  cases hm : mayD l i p with
  | false => exact ⟨l, i, p, 1, by rw [if_neg (by decide)], by rw [if_neg (by simp), if_neg (by decide)]⟩
  | true =>
    rw [if_pos rfl, if_pos rfl]
    by_cases hi : i = -1
    · exact ⟨l, i, p, 9, by rw [if_pos hi], by rw [if_pos hi, if_neg (by decide)]⟩
    · exact ⟨l, -1, 0, 0, by rw [if_neg hi], by rw [if_neg hi, if_pos rfl]⟩
theorem same_rewind {l : List S41} {i p : Int} (ho : ownable l) (hl : l.length ≤ 100) (hx : ∀ x ∈ l, x.f1.length ≤ 100) (k : Nat) (hk : 300 ≤ k) : ∃ a b c d, drive_Rewind.f l i p = some (a, b, c, d) ∧ reelkeeperref13_Rewind.f k l i p = some (a, b, c, d) := by
  unfold reelkeeperref13_Rewind.f drive_Rewind.f rewindD
  rw [mounted_is l i p hl hx k hk, Option.bind_some, if_pos ho]
  cases hm : mayD l i p with
  | false => exact ⟨l, i, p, 1, by rw [if_neg (by decide)], by rw [if_neg (by simp), if_neg (by decide)]⟩
  | true =>
    rw [if_pos rfl, if_pos rfl]
    by_cases hi : i = -1
    · exact ⟨l, i, p, 9, by rw [if_pos hi], by rw [if_pos hi, if_neg (by decide)]⟩
    · exact ⟨l, i, 0, 0, by rw [if_neg hi], by rw [if_neg hi, if_pos rfl]⟩
theorem same_new {l : List S41} (ho : ownable l) (hl : l.length ≤ 100) (hx : ∀ x ∈ l, x.f1.length ≤ 100) (k : Nat) (hk : 300 ≤ k) : ∃ a b c d, drive_New.f l = some (a, b, c, d) ∧ reelkeeperref13_New.f k l = some (a, b, c, d) := by
  unfold reelkeeperref13_New.f
  rw [rm13 l (-1) 0 hl hx k hk, Option.bind_some]
  cases hm : mayD l (-1) 0 with
  | true => exact ⟨l, -1, 0, true, new_ok ho hm, by rw [if_pos rfl]⟩
  | false =>
    refine ⟨[], 0, 0, false, ?_, by rw [if_neg (by decide)]⟩
    unfold drive_New.f drive_May.f
    rw [own_tells ho, Option.bind_some, hm, Option.bind_some, if_neg (by decide)]
theorem rc12 (a : Int) (l : List (List Int)) (b : Bool) (n : Int) (hl : l.length ≤ 1000) (k : Nat) (hk : l.length + 2 ≤ k) : reelkeeperref12_Cut.f k a l b n = some (cutT a l b n) := by
  unfold reelkeeperref12_Cut.f cutT
  rw [rm12 a l b hl k hk, Option.bind_some]
  cases hm : mayT a l with
  | false => rw [if_neg (by decide), if_neg (by decide)]
  | true =>
    rw [if_pos rfl, if_pos rfl]
    by_cases h0 : n < 0
    · rw [if_pos h0, if_pos (.inl h0)]
    · rw [if_neg h0]
      by_cases h1 : n > (l.length : Int)
      · rw [if_pos h1, if_pos (.inr h1)]
      · rw [if_neg h1, if_pos (by omega), if_pos (by omega), if_neg (by omega)]
theorem rw12 (a : Int) (l : List (List Int)) (b : Bool) (r : List Int) (hl : l.length ≤ 1000) (hr : r.length ≤ 1000000) (k : Nat) (hk : l.length + 2 ≤ k) : reelkeeperref12_Write.f k a l b r = some (writeT a l b r) := by
  unfold reelkeeperref12_Write.f writeT
  rw [rm12 a l b hl k hk, Option.bind_some, refMay_f, Option.bind_some]
  obtain ⟨k', rfl⟩ : ∃ k', k = k' + 1 := ⟨k - 1, by omega⟩
  simp only [reelkeeperref12_Write.j0]
  cases hm : mayT a l with
  | false => rw [if_neg (by decide), if_pos trivial, if_neg (by decide)]
  | true =>
    have hc := (mayT_parts hm).2.2.1
    rw [if_pos rfl, if_pos rfl]
    cases hz : recMay r with
    | false => rw [if_pos (by decide), if_neg (by decide)]
    | true =>
      rw [if_neg (by decide), if_pos rfl]
      cases b with
      | true => rw [if_pos rfl, if_pos (.inl rfl)]
      | false =>
        rw [if_neg (by decide)]
        by_cases h1 : (l.length : Int) ≥ a
        · rw [if_pos h1, if_pos (.inr (by omega))]
        · rw [if_neg h1, if_pos (by simp; omega), Option.bind_some, if_pos (by simp; omega), if_pos (by simp; omega), if_neg (by simp; omega)]
          rfl
theorem rcl12 (a : Int) (l : List (List Int)) (b : Bool) (hl : l.length ≤ 1000) (k : Nat) (hk : l.length + 2 ≤ k) : reelkeeperref12_Close.f k a l b = some (closeT a l b) := by
  unfold reelkeeperref12_Close.f closeT
  rw [rm12 a l b hl k hk, Option.bind_some]
  cases mayT a l with
  | false => rw [if_neg (by decide), if_neg (by decide)]
  | true =>
    rw [if_pos rfl, if_pos rfl]
    cases b with
    | true => rw [if_pos rfl, if_pos rfl]
    | false => rw [if_neg (by decide), if_neg (by decide)]
theorem rr12 (a : Int) (l : List (List Int)) (b : Bool) (n : Int) (hl : l.length ≤ 1000) (k : Nat) (hk : l.length + 2 ≤ k) : reelkeeperref12_Read.f k a l b n = some (readT a l n) := by
  unfold reelkeeperref12_Read.f readT
  rw [rm12 a l b hl k hk, Option.bind_some]
  cases mayT a l with
  | false => rw [if_neg (by decide), if_neg (by decide)]
  | true =>
    rw [if_pos rfl, if_pos rfl]
    by_cases h0 : n < 0
    · rw [if_pos h0, if_pos h0]
    · rw [if_neg h0, if_neg h0]
      by_cases h1 : n ≥ (l.length : Int)
      · rw [if_pos h1, if_pos h1]
      · rw [if_neg h1, if_neg h1, if_pos (by omega), if_pos (by omega)]
theorem with_is {l : List S41} {i p : Int} {a : Int} {r : List (List Int)} {b : Bool} {q : Int} (h0 : 0 ≤ i) (h1 : i < (l.length : Int)) (hl : l.length ≤ 100) : reelkeeperref13_with.f l i p a r b q = some (l.set i.toNat ⟨a, r, b⟩, i, q) := by
  unfold reelkeeperref13_with.f
  rw [if_pos (by simp; omega), Option.bind_some, List.nil_append, if_pos h0, if_pos h1]
theorem cutT_len (a : Int) (l : List (List Int)) (b : Bool) (n : Int) : (cutT a l b n).2.1.length ≤ l.length := by
  unfold cutT
  split
  · split
    · exact Nat.le_refl _
    · show (l.take n.toNat).length ≤ l.length
      rw [List.length_take]; omega
  · exact Nat.le_refl _
theorem same_write {l : List S41} {i p : Int} {r : List Int} (ho : ownable l) (hr : r.length ≤ 1000000) (hl : l.length ≤ 100) (hx : ∀ x ∈ l, x.f1.length ≤ 100) (k : Nat) (hk : 300 ≤ k) : ∃ a b c d, drive_Write.f l i p r = some (a, b, c, d) ∧ reelkeeperref13_Write.f k l i p r = some (a, b, c, d) := by
  unfold reelkeeperref13_Write.f drive_Write.f writeD
  rw [mounted_is l i p hl hx k hk, Option.bind_some, if_pos ⟨ho, hr⟩]
  cases hm : mayD l i p with
  | false => exact ⟨l, i, p, 1, by rw [if_neg (by decide)], by rw [if_neg (by simp), if_neg (by decide)]⟩
  | true =>
    rw [if_pos rfl, if_pos rfl]
    by_cases hi : i = -1
    · exact ⟨l, i, p, 9, by rw [if_pos hi], by rw [if_pos hi, if_neg (by decide)]⟩
    · obtain ⟨h0, h1, h2, h3⟩ := mayD_in hm hi
      have hw : wrap64 (p + 1) = p + 1 := by have := hx _ (List.mem_of_getElem? (rd_at h0 h1)); unfold wrap64; omega
      have hlen := hx _ (List.mem_of_getElem? (rd_at h0 h1))
      have hcl := cutT_len (rd_T41 l i).f0 (rd_T41 l i).f1 (rd_T41 l i).f2 p
      have hput : reelkeeperref12_Write.f k (cutT (rd_T41 l i).f0 (rd_T41 l i).f1 (rd_T41 l i).f2 p).1 (cutT (rd_T41 l i).f0 (rd_T41 l i).f1 (rd_T41 l i).f2 p).2.1 (cutT (rd_T41 l i).f0 (rd_T41 l i).f1 (rd_T41 l i).f2 p).2.2.1 r = some (putT (rd_T41 l i) p r) := rw12 _ _ _ _ (by omega) hr k (by omega)
      rw [if_neg hi, if_neg hi, if_pos rfl, if_pos h0, if_pos h1, rc12 _ _ _ _ (by omega) k (by omega), Option.bind_some, hput, Option.bind_some]
      have hx0 : mayT (rd_T41 l i).f0 (rd_T41 l i).f1 = true := mayT_at hm h0 h1
      by_cases hz : recMay r = true
      · rw [if_pos hz]
        by_cases he : (putT (rd_T41 l i) p r).2.2.2 = 0
        · rw [if_pos he, if_pos he, with_is h0 h1 hl, Option.bind_some, hw]
          exact ⟨_, _, _, _, rfl, rfl⟩
        · rw [if_neg he, if_neg he]
          exact ⟨_, _, _, _, rfl, rfl⟩
      · have he : (putT (rd_T41 l i) p r).2.2.2 = 1 := by
          unfold putT
          rw [cut_at hx0 h2 h3]
          dsimp only
          unfold writeT
          rw [if_pos (mayT_take hx0 _), if_neg hz]
        rw [if_neg hz, if_neg (by rw [he]; decide), he]
        exact ⟨_, _, _, _, rfl, rfl⟩
theorem same_mark {l : List S41} {i p : Int} (ho : ownable l) (hl : l.length ≤ 100) (hx : ∀ x ∈ l, x.f1.length ≤ 100) (k : Nat) (hk : 300 ≤ k) : ∃ a b c d, drive_Mark.f l i p = some (a, b, c, d) ∧ reelkeeperref13_Mark.f k l i p = some (a, b, c, d) := by
  unfold reelkeeperref13_Mark.f drive_Mark.f markD
  rw [mounted_is l i p hl hx k hk, Option.bind_some, if_pos ho]
  cases hm : mayD l i p with
  | false => exact ⟨l, i, p, 1, by rw [if_neg (by decide)], by rw [if_neg (by simp), if_neg (by decide)]⟩
  | true =>
    rw [if_pos rfl, if_pos rfl]
    by_cases hi : i = -1
    · exact ⟨l, i, p, 9, by rw [if_pos hi], by rw [if_pos hi, if_neg (by decide)]⟩
    · obtain ⟨h0, h1, h2, h3⟩ := mayD_in hm hi
      have hlen := hx _ (List.mem_of_getElem? (rd_at h0 h1))
      have hcl := cutT_len (rd_T41 l i).f0 (rd_T41 l i).f1 (rd_T41 l i).f2 p
      rw [if_neg hi, if_neg hi, if_pos rfl, if_pos h0, if_pos h1, rc12 _ _ _ _ (by omega) k (by omega), Option.bind_some, rcl12 _ _ _ (by omega) k (by omega), Option.bind_some, with_is h0 h1 hl, Option.bind_some]
      exact ⟨_, _, _, _, rfl, rfl⟩
theorem same_read {l : List S41} {i p : Int} (ho : ownable l) (hl : l.length ≤ 100) (hx : ∀ x ∈ l, x.f1.length ≤ 100) (k : Nat) (hk : 300 ≤ k) : ∃ a b c e d, drive_Read.f l i p = some (a, b, c, e, d) ∧ reelkeeperref13_Read.f k l i p = some (a, b, c, e, d) := by
  unfold reelkeeperref13_Read.f drive_Read.f readD
  rw [mounted_is l i p hl hx k hk, Option.bind_some, if_pos ho]
  cases hm : mayD l i p with
  | false => exact ⟨l, i, p, [], 1, by rw [if_neg (by decide)], by rw [if_neg (by simp), if_neg (by decide)]⟩
  | true =>
    rw [if_pos rfl, if_pos rfl]
    by_cases hi : i = -1
    · exact ⟨l, i, p, [], 9, by rw [if_pos hi], by rw [if_pos hi, if_neg (by decide)]⟩
    · obtain ⟨h0, h1, h2, h3⟩ := mayD_in hm hi
      have hlen := hx _ (List.mem_of_getElem? (rd_at h0 h1))
      have hw : wrap64 (p + 1) = p + 1 := by unfold wrap64; omega
      have hg : reelkeeperref12_Read.f k (rd_T41 l i).f0 (rd_T41 l i).f1 (rd_T41 l i).f2 p = some (getT (rd_T41 l i) p) := rr12 _ _ _ _ (by omega) k (by omega)
      rw [if_neg hi, if_neg hi, if_pos rfl, if_pos h0, if_pos h1, hg, Option.bind_some]
      by_cases he : (getT (rd_T41 l i) p).2 = 0
      · rw [if_pos he, if_pos he, hw]
        exact ⟨_, _, _, _, _, rfl, rfl⟩
      · have hb : (getT (rd_T41 l i) p).1 = [] := by
          unfold getT readT at he ⊢
          rw [if_pos (mayT_at hm h0 h1)] at he ⊢
          by_cases q0 : p < 0
          · rw [if_pos q0]
          · rw [if_neg q0] at he ⊢
            by_cases q1 : p ≥ ((rd_T41 l i).f1.length : Int)
            · rw [if_pos q1]
            · rw [if_neg q1] at he
              exact absurd rfl he
        rw [if_neg he, if_neg he, hb]
        exact ⟨_, _, _, _, _, rfl, rfl⟩
theorem strl_one {a b : List Int} (ha : ∀ x ∈ a, 0 ≤ x ∧ x ≤ 255) (hb : ∀ x ∈ b, 0 ≤ x ∧ x ≤ 255) (h : strl a = strl b) : a = b := by
  have e : strOfNums a = strOfNums b := by
    unfold strl at h
    rw [ByteArray.toList_eq, ByteArray.toList_eq] at h
    have h2 : (strOfNums a).data = (strOfNums b).data := Array.ext' (by simpa using h)
    cases hA : strOfNums a; cases hB : strOfNums b
    rw [hA, hB] at h2
    simp only at h2
    rw [h2]
  rw [← bytes_of_nums a ha, ← bytes_of_nums b hb, e]
theorem rows_one : ∀ (l k : List (List Int)), (∀ x ∈ l, ∀ y ∈ x, 0 ≤ y ∧ y ≤ 255) → (∀ x ∈ k, ∀ y ∈ x, 0 ≤ y ∧ y ≤ 255) → l.map strl = k.map strl → l = k
  | [], [], _, _, _ => rfl
  | [], _ :: _, _, _, h => by simp at h
  | _ :: _, [], _, _, h => by simp at h
  | a :: l, b :: k, h1, h2, h => by
    simp only [List.map_cons, List.cons.injEq] at h
    rw [strl_one (h1 a (List.mem_cons_self ..)) (h2 b (List.mem_cons_self ..)) h.1, rows_one l k (fun x hx => h1 x (List.mem_cons_of_mem _ hx)) (fun x hx => h2 x (List.mem_cons_of_mem _ hx)) h.2]
theorem same_two (l k : List (List Int)) (h1 : RowsOk l) (h2 : RowsOk k) : reelkeeperref03_Same.f l k = some (decide (l = k)) := by
  unfold reelkeeperref03_Same.f
  congr 1
  by_cases h : l = k
  · rw [decide_eq_true h, decide_eq_true (by rw [h])]
  · rw [decide_eq_false h, decide_eq_false (fun e => h (rows_one l k (fun x hx y hy => wf_byte ((h1.2 x hx).2 y hy)) (fun x hx y hy => wf_byte ((h2.2 x hx).2 y hy)) e))]
theorem same12 (x y : S41) (h : reelkeeperref03_Same.f x.f1 y.f1 = some (decide (x.f1 = y.f1))) : reelkeeperref12_Same.f x.f0 x.f1 x.f2 y.f0 y.f1 y.f2 = some (decide (tup x = tup y)) := by
  unfold reelkeeperref12_Same.f
  rw [h, Option.bind_some]
  have e : tup x = tup y ↔ x.f0 = y.f0 ∧ x.f1 = y.f1 ∧ x.f2 = y.f2 := by simp only [tup, Prod.mk.injEq]
  by_cases h1 : x.f1 = y.f1
  · rw [decide_eq_true h1, if_pos rfl]
    by_cases h0 : x.f0 = y.f0
    · rw [if_pos h0]
      by_cases h2 : x.f2 = y.f2
      · rw [decide_eq_true (e.2 ⟨h0, h1, h2⟩), h2, beq_self_eq_true]
      · rw [decide_eq_false (fun h => h2 (e.1 h).2.2), beq_eq_false_iff_ne.2 h2]
    · rw [if_neg h0, decide_eq_false (fun h => h0 (e.1 h).1)]
  · rw [decide_eq_false h1, if_neg (by decide), decide_eq_false (fun h => h1 (e.1 h).2.1)]
theorem same13_loop (l m : List S41) (i p i' p' : Int) (he : l.length = m.length) (hl : l.length ≤ 1000) (hs : ∀ x ∈ l, ∀ y ∈ m, x = y ∨ RowsOk x.f1 ∧ RowsOk y.f1) : ∀ (n : Nat) (x : Int) (k : Nat), 0 ≤ x → x ≤ (l.length : Int) → l.length - x.toNat ≤ n → n + 1 ≤ k →
    reelkeeperref13_Same.l0 k x l i p m i' p' = some (decide ((l.drop x.toNat).map tup = (m.drop x.toNat).map tup)) := by
  have fin : ∀ (x : Int) (k : Nat), ¬ x < (l.length : Int) → 1 ≤ k → reelkeeperref13_Same.l0 k x l i p m i' p' = some (decide ((l.drop x.toNat).map tup = (m.drop x.toNat).map tup)) := by
    intro x k hx hk
    obtain ⟨k', rfl⟩ : ∃ k', k = k' + 1 := ⟨k - 1, by omega⟩
    rw [reelkeeperref13_Same.l0]
    rw [if_neg hx, List.drop_of_length_le (by omega), List.drop_of_length_le (by omega), decide_eq_true rfl]
  have dr : ∀ (l : List S41) (x : Int), 0 ≤ x → x < (l.length : Int) → l.drop x.toNat = rd_T41 l x :: l.drop (x.toNat + 1) := by
    intro l x h0 h1
    rw [List.drop_eq_getElem_cons (by omega : x.toNat < l.length)]
    congr 1
    have h9 := List.getElem?_eq_getElem (by omega : x.toNat < l.length)
    rw [rd_at h0 h1] at h9
    exact (Option.some.inj h9).symm
  intro n
  induction n with
  | zero => intro x k h0 h1 h2 hk; exact fin x k (by omega) (by omega)
  | succ n ih =>
    intro x k h0 h1 h2 hk
    by_cases hlt : x < (l.length : Int)
    · obtain ⟨k', rfl⟩ : ∃ k', k = k' + 1 := ⟨k - 1, by omega⟩
      have hw : wrap64 (x + 1) = x + 1 := by unfold wrap64; omega
      have ha : rd_T41 l x ∈ l := List.mem_of_getElem? (rd_at h0 hlt)
      have hb : rd_T41 m x ∈ m := List.mem_of_getElem? (rd_at h0 (by omega))
      have h3 : reelkeeperref03_Same.f (rd_T41 l x).f1 (rd_T41 m x).f1 = some (decide ((rd_T41 l x).f1 = (rd_T41 m x).f1)) := by
        rcases hs _ ha _ hb with e | ⟨q1, q2⟩
        · rw [e]; unfold reelkeeperref03_Same.f; rw [decide_eq_true rfl, decide_eq_true rfl]
        · exact same_two _ _ q1 q2
      rw [reelkeeperref13_Same.l0]
      rw [if_pos hlt, if_pos h0, if_pos (by omega), same12 _ _ h3, Option.bind_some, dr l x h0 hlt, dr m x h0 (by omega), List.map_cons, List.map_cons, hw]
      by_cases e : tup (rd_T41 l x) = tup (rd_T41 m x)
      · rw [decide_eq_true e, if_pos rfl, ih (x + 1) k' (by omega) (by omega) (by omega) (by omega), show (x + 1).toNat = x.toNat + 1 by omega, e]
        congr 1
        simp only [List.cons.injEq, true_and]
      · rw [decide_eq_false e, if_neg (by decide), decide_eq_false (fun h => e (List.cons.inj h).1)]
    · exact fin x k hlt (by omega)
theorem same13 (l m : List S41) (i p i' p' : Int) (hl : l.length ≤ 1000) (hs : ∀ x ∈ l, ∀ y ∈ m, x = y ∨ RowsOk x.f1 ∧ RowsOk y.f1) (k : Nat) (hk : l.length + 3 ≤ k) : reelkeeperref13_Same.f k l i p m i' p' = drive_Same.f l i p m i' p' := by
  obtain ⟨k', rfl⟩ : ∃ k', k = k' + 1 := ⟨k - 1, by omega⟩
  unfold reelkeeperref13_Same.f drive_Same.f
  simp only [reelkeeperref13_Same.j0]
  by_cases h0 : i = i'
  · rw [if_pos h0, decide_eq_true h0, Bool.true_and]
    by_cases h1 : p = p'
    · rw [if_pos h1, decide_eq_true h1, Bool.true_and]
      by_cases h2 : l.length = m.length
      · rw [if_neg (by simp [h2]), same13_loop l m i p i' p' h2 hl hs l.length 0 k' (Int.le_refl _) (by omega) (by omega) (by omega)]
        rfl
      · rw [if_pos (by simp; omega), sameL_ne (fun e => h2 (by rw [e]))]
    · rw [if_neg h1, if_pos trivial, decide_eq_false h1, Bool.false_and]
  · rw [if_neg h0, if_pos trivial, decide_eq_false h0, Bool.false_and]
theorem same13_self (l : List S41) (i p : Int) (hl : l.length ≤ 1000) (k : Nat) (hk : l.length + 3 ≤ k) : reelkeeperref13_Same.f k l i p l i p = some true := by
  obtain ⟨k', rfl⟩ : ∃ k', k = k' + 1 := ⟨k - 1, by omega⟩
  unfold reelkeeperref13_Same.f
  simp only [reelkeeperref13_Same.j0]
  rw [if_pos trivial, if_pos trivial, if_neg (by simp)]
  have lp : ∀ (n : Nat) (x : Int) (k : Nat), 0 ≤ x → x ≤ (l.length : Int) → l.length - x.toNat ≤ n → n + 1 ≤ k → reelkeeperref13_Same.l0 k x l i p l i p = some true := by
    intro n
    induction n with
    | zero =>
      intro x k h0 h1 h2 hk
      obtain ⟨k', rfl⟩ : ∃ k', k = k' + 1 := ⟨k - 1, by omega⟩
      rw [reelkeeperref13_Same.l0]
      rw [if_neg (by omega)]
    | succ n ih =>
      intro x k h0 h1 h2 hk
      obtain ⟨k', rfl⟩ : ∃ k', k = k' + 1 := ⟨k - 1, by omega⟩
      rw [reelkeeperref13_Same.l0]
      by_cases hlt : x < (l.length : Int)
      · have hw : wrap64 (x + 1) = x + 1 := by unfold wrap64; omega
        have h3 : reelkeeperref03_Same.f (rd_T41 l x).f1 (rd_T41 l x).f1 = some (decide ((rd_T41 l x).f1 = (rd_T41 l x).f1)) := by unfold reelkeeperref03_Same.f; rw [decide_eq_true rfl, decide_eq_true rfl]
        rw [if_pos hlt, if_pos h0, if_pos hlt, same12 _ _ h3, Option.bind_some, decide_eq_true rfl, if_pos rfl, hw, ih (x + 1) k' (by omega) (by omega) (by omega) (by omega)]
      · rw [if_neg hlt]
  exact lp l.length 0 k' (Int.le_refl _) (by omega) (by omega) (by omega)
theorem len_mount {l : List S41} {i p n : Int} {a : List S41} {b c d : Int} (h : drive_Mount.f l i p n = some (a, b, c, d)) : a.length ≤ l.length := by
  unfold drive_Mount.f drive_own.f drive_May.f at h
  by_cases ho : ownable l
  · rw [if_pos ho, Option.bind_some, Option.bind_some] at h
    dsimp only at h
    repeat' split at h
    all_goals (obtain ⟨rfl, _⟩ := Prod.mk.inj (Option.some.inj h); exact Nat.le_refl _)
  · rw [if_neg ho] at h
    cases h
theorem len_new {l a : List S41} {b c : Int} {d : Bool} (h : drive_New.f l = some (a, b, c, d)) : a.length ≤ l.length := by
  unfold drive_New.f drive_own.f drive_May.f at h
  by_cases ho : ownable l
  · rw [if_pos ho, Option.bind_some, Option.bind_some] at h
    dsimp only at h
    repeat' split at h
    all_goals (obtain ⟨rfl, _⟩ := Prod.mk.inj (Option.some.inj h); first | exact Nat.le_refl _ | exact Nat.zero_le _)
  · rw [if_neg ho] at h
    cases h
theorem len_unmount {l a : List S41} {i p b c d : Int} (h : drive_Unmount.f l i p = some (a, b, c, d)) : a.length ≤ l.length := by
  unfold drive_Unmount.f unmountD at h
  repeat' split at h
  all_goals first | (cases h; done) | (obtain ⟨rfl, _⟩ := Prod.mk.inj (Option.some.inj h); exact Nat.le_refl _)
theorem len_rewind {l a : List S41} {i p b c d : Int} (h : drive_Rewind.f l i p = some (a, b, c, d)) : a.length ≤ l.length := by
  unfold drive_Rewind.f rewindD at h
  repeat' split at h
  all_goals first | (cases h; done) | (obtain ⟨rfl, _⟩ := Prod.mk.inj (Option.some.inj h); exact Nat.le_refl _)
theorem len_write {l a : List S41} {i p b c d : Int} {r : List Int} (h : drive_Write.f l i p r = some (a, b, c, d)) : a.length ≤ l.length := by
  unfold drive_Write.f writeD at h
  repeat' split at h
  all_goals first | (cases h; done) | (obtain ⟨rfl, _⟩ := Prod.mk.inj (Option.some.inj h); first | exact Nat.le_refl _ | (rw [List.length_set]; exact Nat.le_refl _))
theorem len_mark {l a : List S41} {i p b c d : Int} (h : drive_Mark.f l i p = some (a, b, c, d)) : a.length ≤ l.length := by
  unfold drive_Mark.f markD at h
  repeat' split at h
  all_goals first | (cases h; done) | (obtain ⟨rfl, _⟩ := Prod.mk.inj (Option.some.inj h); first | exact Nat.le_refl _ | (rw [List.length_set]; exact Nat.le_refl _))
theorem len_read {l a : List S41} {i p b c d : Int} {e : List Int} (h : drive_Read.f l i p = some (a, b, c, e, d)) : a.length ≤ l.length := by
  unfold drive_Read.f readD at h
  repeat' split at h
  all_goals first | (cases h; done) | (obtain ⟨rfl, _⟩ := Prod.mk.inj (Option.some.inj h); first | exact Nat.le_refl _ | (rw [List.length_set]; exact Nat.le_refl _))
theorem tells_all (l : List S41) (i p : Int) (m : List S41) (j q n : Int) (r : List Int) (hl : l.length ≤ 15) (hx : ∀ x ∈ l, x.f1.length ≤ 30 ∧ ∀ y ∈ x.f1, y.length ≤ 12000) (hr : r.length ≤ 12000) (hs : ∀ x ∈ l, ∀ y ∈ m, x = y ∨ RowsOk x.f1 ∧ RowsOk y.f1) (k : Nat) (hk : 300 ≤ k) : TellsAll13 k l i p m j q n r := by
  have hx2 : ∀ x ∈ l, x.f1.length ≤ 100 := fun x h => by have := (hx x h).1; omega
  have ho : ownable l := ownable_of (n := 30) (by omega) (by omega) hx
  refine ⟨?_, ?_, ?_, ?_, ?_, ?_, ?_, ?_, ?_⟩
  · obtain ⟨a, b, c, d, h1, h2⟩ := same_mount (p := p) (n := n) (i := i) ho (by omega) hx2 k hk
    exact ⟨a, b, c, d, h1, h2, same13_self a b c (by have := len_mount h1; omega) k (by have := len_mount h1; omega)⟩
  · obtain ⟨a, b, c, d, h1, h2⟩ := same_unmount (p := p) (i := i) ho (by omega) hx2 k hk
    exact ⟨a, b, c, d, h1, h2, same13_self a b c (by have := len_unmount h1; omega) k (by have := len_unmount h1; omega)⟩
  · obtain ⟨a, b, c, d, h1, h2⟩ := same_rewind (p := p) (i := i) ho (by omega) hx2 k hk
    exact ⟨a, b, c, d, h1, h2, same13_self a b c (by have := len_rewind h1; omega) k (by have := len_rewind h1; omega)⟩
  · obtain ⟨a, b, c, d, h1, h2⟩ := same_write (p := p) (i := i) (r := r) ho (by omega) (by omega) hx2 k hk
    exact ⟨a, b, c, d, h1, h2, same13_self a b c (by have := len_write h1; omega) k (by have := len_write h1; omega)⟩
  · obtain ⟨a, b, c, d, h1, h2⟩ := same_mark (p := p) (i := i) ho (by omega) hx2 k hk
    exact ⟨a, b, c, d, h1, h2, same13_self a b c (by have := len_mark h1; omega) k (by have := len_mark h1; omega)⟩
  · obtain ⟨a, b, c, e, d, h1, h2⟩ := same_read (p := p) (i := i) ho (by omega) hx2 k hk
    exact ⟨a, b, c, e, d, h1, h2, same13_self a b c (by have := len_read h1; omega) k (by have := len_read h1; omega)⟩
  · obtain ⟨a, b, c, d, h1, h2⟩ := same_new ho (by omega) hx2 k hk
    exact ⟨a, b, c, d, h1, h2, same13_self a b c (by have := len_new h1; omega) k (by have := len_new h1; omega)⟩
  · exact ⟨mayD l i p, rm13 l i p (by omega) hx2 k hk, rfl⟩
  · exact ⟨_, (same13 l m i p j q (by omega) hs k (by omega)).trans rfl, rfl⟩
theorem DriveTells (l : List S41) (i p : Int) (m : List S41) (j q : Int) (n : Int) (r : List Int) (ok : DriveOk l i p) (ok2 : DriveOk m j q) (_h1 : (Lit.int .i64 n).wf = true) (_h2 : r.length ≤ maxLen ∧ ∀ b ∈ r, (Lit.int .u8 b).wf = true) : ∃ k, reelkeeperlaw13_DriveTells.f k l i p m j q n r = some true := by
  obtain ⟨t1, ⟨K1, g1⟩, e1⟩ := few_tells l i p ok
  obtain ⟨t2, ⟨K2, g2⟩, e2⟩ := few_tells m j q ok2
  refine ⟨K1 + K2 + 300, ?_⟩
  unfold reelkeeperlaw13_DriveTells.f
  rw [awake_tells, Option.bind_some, g1 _ (by omega), Option.bind_some, g2 _ (by omega), Option.bind_some, if_pos rfl]
  by_cases hq : t1 = true ∧ t2 = true ∧ r.length ≤ 12000
  case neg => rw [if_neg hq]
  rw [if_pos hq]
  obtain ⟨rfl, rfl, hrl⟩ := hq
  obtain ⟨hl, hx⟩ := e1 rfl
  rw [if_pos (tells_all l i p m j q n r hl hx hrl (fun x h y h' => .inr ⟨(ok.2.1 x h).2, (ok2.2.1 y h').2⟩) _ (by omega))]
end Go.Proofs.Ytpbfeegfkiegeaa.Pure
