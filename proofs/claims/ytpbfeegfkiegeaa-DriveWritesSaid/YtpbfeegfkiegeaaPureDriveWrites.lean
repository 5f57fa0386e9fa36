/- DriveWrites: what is written is read where it was written, rewound up to there; with an error nothing changes: for every drive, record and int. -/
import Derived.Test.YtpbfeegfkiegeaaM0
import Derived.Test.YtpbfeegfkiegeaaM4
import Derived.Test.YtpbfeegfkiegeaaM5
import Derived.Test.YtpbfeegfkiegeaaM7
import Derived.Test.YtpbfeegfkiegeaaM8
import Derived.Test.YtpbfeegfkiegeaaM9
import Derived.Test.YtpbfeegfkiegeaaM10
import Derived.Test.YtpbfeegfkiegeaaM11
import Derived.Test.YtpbfeegfkiegeaaM12
import Derived.Test.YtpbfeegfkiegeaaM13
import Derived.Test.YtpbfeegfkiegeaaM14
import Derived.Test.YtpbfeegfkiegeaaM15
import Derived.Test.YtpbfeegfkiegeaaM17
import Derived.Test.YtpbfeegfkiegeaaM18
import Derived.Test.YtpbfeegfkiegeaaM19
import Derived.Test.YtpbfeegfkiegeaaM20
import Derived.Test.YtpbfeegfkiegeaaM21
import Derived.Test.YtpbfeegfkiegeaaM36
namespace Go.Proofs.Ytpbfeegfkiegeaa.Pure
open Go.RowKit Go.Proofs.Ytpbfeegfkiegeaa.M Go.Proofs.YtpbfeegfkiegeaaW.PrintWords Go.Proofs.YtpbfeegfkiegeaaW.PrintLast
theorem few_loop (l : List S41) (i p : Int) (hm : l.length ≤ 9223372036854775807) (hx : ∀ x ∈ l, x.f1.length ≤ 9223372036854775807) : ∀ (n : Nat) (x : Int), 0 ≤ x → x ≤ (l.length : Int) → l.length - x.toNat ≤ n →
    ∃ t, (∃ K, ∀ k, K ≤ k → reelkeeperlaw13_Few.l0 k x l i p = some t) ∧ (t = true → l.length ≤ 15 ∧ ∀ j : Int, x ≤ j → j < (l.length : Int) → (rd_T41 l j).f1.length ≤ 30 ∧ ∀ y ∈ (rd_T41 l j).f1, y.length ≤ 12000) := by
  intro n
  induction n with
  | zero =>
    intro x h0 h1 h2
    refine ⟨decide ((l.length : Int) ≤ 15), ⟨2, fun k hk => ?_⟩, fun h => ⟨by have := of_decide_eq_true h; omega, fun j h3 h4 => by omega⟩⟩
    obtain ⟨k', rfl⟩ : ∃ k', k = k' + 1 + 1 := ⟨k - 2, by omega⟩
    simp only [reelkeeperlaw13_Few.l0]
    rw [if_neg (by omega)]
    simp only [reelkeeperlaw13_Few.j1]
    rw [if_neg (by decide)]
  | succ n ih =>
    intro x h0 h1 h2
    by_cases hlt : x < (l.length : Int)
    · by_cases h15 : x ≤ 15
      · have hmem : rd_T41 l x ∈ l := List.mem_of_getElem? (rd_at h0 hlt)
        obtain ⟨t1, ⟨K1, g1⟩, b1⟩ := reelkeeperlaw11_FewRecs.tells (rd_T41 l x).f1 (hx _ hmem)
        have hw : wrap64 (x + 1) = x + 1 := by unfold wrap64; omega
        cases t1 with
        | false =>
          refine ⟨false, ⟨K1 + 2, fun k hk => ?_⟩, fun h => by cases h⟩
          obtain ⟨k', rfl⟩ : ∃ k', k = k' + 1 + 1 := ⟨k - 2, by omega⟩
          simp only [reelkeeperlaw13_Few.l0]
          rw [if_pos hlt]
          simp only [reelkeeperlaw13_Few.j1]
          rw [if_pos (decide_eq_true h15), if_pos h0, if_pos hlt, (show reelkeeperlaw11_FewRecs.f k' (rd_T41 l x).f1 = some _ from g1 k' (by omega)), Option.bind_some, if_neg (by decide)]
        | true =>
          by_cases h30 : ((rd_T41 l x).f1.length : Int) > 30
          · refine ⟨false, ⟨K1 + 2, fun k hk => ?_⟩, fun h => by cases h⟩
            obtain ⟨k', rfl⟩ : ∃ k', k = k' + 1 + 1 := ⟨k - 2, by omega⟩
            simp only [reelkeeperlaw13_Few.l0]
            rw [if_pos hlt]
            simp only [reelkeeperlaw13_Few.j1]
            rw [if_pos (decide_eq_true h15), if_pos h0, if_pos hlt, (show reelkeeperlaw11_FewRecs.f k' (rd_T41 l x).f1 = some _ from g1 k' (by omega)), Option.bind_some, if_pos rfl, if_pos h30]
          · obtain ⟨t, ⟨K, g⟩, b⟩ := ih (x + 1) (by omega) (by omega) (by omega)
            refine ⟨t, ⟨K1 + K + 2, fun k hk => ?_⟩, fun h => ⟨(b h).1, fun j h3 h4 => ?_⟩⟩
            · obtain ⟨k', rfl⟩ : ∃ k', k = k' + 1 + 1 := ⟨k - 2, by omega⟩
              simp only [reelkeeperlaw13_Few.l0]
              rw [if_pos hlt]
              simp only [reelkeeperlaw13_Few.j1]
              rw [if_pos (decide_eq_true h15), if_pos h0, if_pos hlt, (show reelkeeperlaw11_FewRecs.f k' (rd_T41 l x).f1 = some _ from g1 k' (by omega)), Option.bind_some, if_pos rfl, if_neg h30, hw, g _ (by omega)]
            · by_cases e : j = x
              · subst e
                exact ⟨by omega, (b1 rfl).2⟩
              · exact (b h).2 j (by omega) h4
      · refine ⟨decide ((l.length : Int) ≤ 15), ⟨2, fun k hk => ?_⟩, fun h => by have := of_decide_eq_true h; omega⟩
        obtain ⟨k', rfl⟩ : ∃ k', k = k' + 1 + 1 := ⟨k - 2, by omega⟩
        simp only [reelkeeperlaw13_Few.l0]
        rw [if_pos hlt]
        simp only [reelkeeperlaw13_Few.j1]
        rw [if_neg (by rw [decide_eq_false h15]; decide)]
    · refine ⟨decide ((l.length : Int) ≤ 15), ⟨2, fun k hk => ?_⟩, fun h => ⟨by have := of_decide_eq_true h; omega, fun j h3 h4 => by omega⟩⟩
      obtain ⟨k', rfl⟩ : ∃ k', k = k' + 1 + 1 := ⟨k - 2, by omega⟩
      simp only [reelkeeperlaw13_Few.l0]
      rw [if_neg hlt]
      simp only [reelkeeperlaw13_Few.j1]
      rw [if_neg (by decide)]
theorem few_all {l : List S41} (h : ∀ j : Int, 0 ≤ j → j < (l.length : Int) → (rd_T41 l j).f1.length ≤ 30 ∧ ∀ y ∈ (rd_T41 l j).f1, y.length ≤ 12000) : ∀ x ∈ l, x.f1.length ≤ 30 ∧ ∀ y ∈ x.f1, y.length ≤ 12000 := by
  intro x hx
  obtain ⟨j, hj⟩ := List.getElem?_of_mem hx
  have hjl := (List.getElem?_eq_some_iff.1 hj).1
  have h1 := rd_at (l := l) (i := (j : Int)) (by omega) (by omega)
  rw [Int.toNat_natCast, hj] at h1
  obtain rfl := Option.some.inj h1
  exact h j (by omega) (by omega)
theorem few_tells (l : List S41) (i p : Int) (ok : DriveOk l i p) : ∃ t, (∃ K, ∀ k, K ≤ k → reelkeeperlaw13_Few.f k l i p = some t) ∧ (t = true → l.length ≤ 15 ∧ ∀ x ∈ l, x.f1.length ≤ 30 ∧ ∀ y ∈ x.f1, y.length ≤ 12000) := by
  have hm : l.length ≤ 9223372036854775807 := by have := ok.1; unfold maxLen at this; exact this
  obtain ⟨t, ⟨K, g⟩, b⟩ := few_loop l i p hm (fun x hx => by have := (ok.2.1 x hx).2.1; unfold maxLen at this; exact this) l.length 0 (Int.le_refl _) (by omega) (by omega)
  exact ⟨t, ⟨K, fun k hk => g k hk⟩, fun h => ⟨(b h).1, few_all (b h).2⟩⟩
theorem ownable_of {l : List S41} {n : Nat} (h0 : l.length ≤ 1000) (hn : n ≤ 1000) (h1 : ∀ x ∈ l, x.f1.length ≤ n ∧ ∀ y ∈ x.f1, y.length ≤ 12000) : ownable l :=
  ⟨h0, List.all_eq_true.2 (fun x hx => by
    rw [Bool.and_eq_true]
    exact ⟨decide_eq_true (by have := (h1 x hx).1; omega), List.all_eq_true.2 (fun y hy => decide_eq_true (by have := (h1 x hx).2 y hy; omega))⟩)⟩
theorem own_tells {l : List S41} {i p : Int} (h : ownable l) : drive_own.f l i p = some (l, i, p) := by unfold drive_own.f; rw [if_pos h]
theorem mount_out {l : List S41} {i p n : Int} (h : ownable l) (hm : mayD l i p = true) (hn : n < 0 ∨ n ≥ (l.length : Int)) : drive_Mount.f l i p n = some (l, i, p, 9) := by
  unfold drive_Mount.f drive_May.f
  rw [own_tells h, Option.bind_some, Option.bind_some, if_pos hm]
  by_cases h0 : n < 0
  · rw [if_pos h0]
  · rw [if_neg h0, if_pos (by omega)]
theorem mount_in {l : List S41} {i p n : Int} (h : ownable l) (hm : mayD l i p = true) (h0 : 0 ≤ n) (h1 : n < (l.length : Int)) : drive_Mount.f l i p n = some (l, n, 0, 0) := by
  unfold drive_Mount.f drive_May.f
  rw [own_tells h, Option.bind_some, Option.bind_some, if_pos hm, if_neg (by omega), if_neg (by omega)]
theorem new_ok {l : List S41} (h : ownable l) (hm : mayD l (-1) 0 = true) : drive_New.f l = some (l, -1, 0, true) := by
  unfold drive_New.f drive_May.f
  rw [own_tells h, Option.bind_some, Option.bind_some, if_pos hm]
theorem unmount_in {l : List S41} {i p : Int} (h : ownable l) (hm : mayD l i p = true) (hi : i ≠ -1) : drive_Unmount.f l i p = some (l, -1, 0, 0) := by
  unfold drive_Unmount.f unmountD
  rw [if_pos h, if_pos hm, if_neg hi]
theorem unmount_out {l : List S41} {p : Int} (h : ownable l) (hm : mayD l (-1) p = true) : drive_Unmount.f l (-1) p = some (l, -1, p, 9) := by
  unfold drive_Unmount.f unmountD
  rw [if_pos h, if_pos hm, if_pos rfl]
theorem rewind_in {l : List S41} {i p : Int} (h : ownable l) (hm : mayD l i p = true) (hi : i ≠ -1) : drive_Rewind.f l i p = some (l, i, 0, 0) := by
  unfold drive_Rewind.f rewindD
  rw [if_pos h, if_pos hm, if_neg hi]
theorem same_self (l : List S41) (i p : Int) : drive_Same.f l i p l i p = some true := by
  unfold drive_Same.f
  rw [decide_eq_true rfl, decide_eq_true rfl, sameL_self]
  rfl
theorem mayD_of {l : List S41} {i p : Int} (h0 : l.length ≤ 12) (h1 : l.all mayR = true) (h2 : -1 ≤ i) (h3 : i < (l.length : Int)) (h4 : 0 ≤ p) (h5 : p ≤ mostD l i) : mayD l i p = true := by
  unfold mayD
  simp only [Bool.and_eq_true, decide_eq_true_eq]
  exact ⟨by omega, h1, h2, h3, h4, h5⟩
theorem mostD_nonneg (l : List S41) (i : Int) : 0 ≤ mostD l i := by
  unfold mostD
  split <;> omega
theorem mayD_zero {l : List S41} {i p n : Int} (hm : mayD l i p = true) (h0 : -1 ≤ n) (h1 : n < (l.length : Int)) : mayD l n 0 = true := by
  obtain ⟨a, b, _, _, _, _⟩ := mayD_parts hm
  exact mayD_of a b h0 h1 (Int.le_refl _) (mostD_nonneg l n)
theorem zeros_may : recMay (List.replicate 512 0) = true := by
  unfold recMay
  rw [List.length_replicate]
  rfl
theorem awake_tells : reelkeeperlaw13_awake.f = some true := by
  have hz := zeros_may
  have hzl : (List.replicate 512 (0 : Int)).length = 512 := List.length_replicate
  have hNew : tape_New.f 2 = some (2, [], false, true) := rfl
  unfold reelkeeperlaw13_awake.f
  rw [hNew, Option.bind_some]
  obtain ⟨z, hzz⟩ : ∃ z, List.replicate 512 (0 : Int) = z := ⟨_, rfl⟩
  rw [hzz] at hz hzl ⊢
  dsimp only
  obtain ⟨t0, ht0⟩ : ∃ t : S41, t = ⟨2, [], false⟩ := ⟨_, rfl⟩
  obtain ⟨t1, ht1⟩ : ∃ t : S41, t = ⟨2, [z], false⟩ := ⟨_, rfl⟩
  obtain ⟨t2, ht2⟩ : ∃ t : S41, t = ⟨2, [z], true⟩ := ⟨_, rfl⟩
  have m0 : mayT 2 [] = true := rfl
  have m1 : mayT 2 [z] = true := by unfold mayT; simp [hz]
  have one_own : ∀ t : S41, t.f1 = [] ∨ t.f1 = [z] → ownable [t] := fun t h => ownable_of (n := 1) (by simp) (by omega) (fun x hx => by
    obtain rfl : x = t := by simpa using hx
    rcases h with h | h <;> rw [h] <;> simp; omega)
  have one_may : ∀ (t : S41) (i p : Int), mayT t.f0 t.f1 = true → (i = -1 ∧ p = 0 ∨ i = 0 ∧ 0 ≤ p ∧ p ≤ (t.f1.length : Int)) → mayD [t] i p = true := fun t i p h hi => by
    refine mayD_of (by simp) (by simp [mayR, h]) (by omega) (by simp; omega) (by omega) ?_
    unfold mostD
    rcases hi with ⟨rfl, rfl⟩ | ⟨rfl, h2, h3⟩
    · rw [if_pos rfl]; omega
    · rw [if_neg (by decide)]; exact h3
  have o0 := one_own t0 (.inl (by rw [ht0]))
  have o1 := one_own t1 (.inr (by rw [ht1]))
  have o2 := one_own t2 (.inr (by rw [ht2]))
  have a0 := one_may t0 (-1) 0 (by rw [ht0]; exact m0) (.inl ⟨rfl, rfl⟩)
  have a1 := one_may t0 0 0 (by rw [ht0]; exact m0) (.inr ⟨rfl, by omega, by omega⟩)
  have a2 := one_may t1 0 1 (by rw [ht1]; exact m1) (.inr ⟨rfl, by omega, by rw [ht1]; simp⟩)
  have a3 := one_may t1 0 0 (by rw [ht1]; exact m1) (.inr ⟨rfl, by omega, by omega⟩)
  have a4 := one_may t2 0 1 (by rw [ht2]; exact m1) (.inr ⟨rfl, by omega, by rw [ht2]; simp⟩)
  have a5 := one_may t2 (-1) 0 (by rw [ht2]; exact m1) (.inl ⟨rfl, rfl⟩)
  have r0 : rd_T41 [t0] 0 = t0 := rfl
  have r1 : rd_T41 [t1] 0 = t1 := rfl
  have r2 : rd_T41 [t2] 0 = t2 := rfl
  have c0 : cutT 2 [] false 0 = (2, [], false, 0) := by unfold cutT; rw [if_pos m0, if_neg (by simp)]; rfl
  have c1 : cutT 2 [z] false 1 = (2, [z], false, 0) := by unfold cutT; rw [if_pos m1, if_neg (by simp)]; rfl
  have p0 : putT t0 0 z = (2, [z], false, 0) := by
    unfold putT
    rw [ht0]
    dsimp only
    rw [c0]
    dsimp only
    unfold writeT
    rw [if_pos m0, if_pos hz, if_neg (by simp)]
    rfl
  have g1 : getT t1 0 = (z, 0) := by
    unfold getT readT
    rw [ht1]
    dsimp only
    rw [if_pos m1, if_neg (by decide), if_neg (by simp)]
    rfl
  have k1 : markS t1 1 = t2 := by
    unfold markS
    rw [ht1]
    dsimp only
    rw [c1]
    dsimp only
    unfold closeT
    rw [if_pos m1, if_neg (by decide), ht2]
  have f0 : drive_New.f [t0] = some ([t0], -1, 0, true) := new_ok o0 a0
  have f1 : drive_Read.f [t0] (-1) 0 = some ([t0], -1, 0, [], 9) := by unfold drive_Read.f readD; rw [if_pos o0, if_pos a0, if_pos rfl]
  have f2 : drive_Mount.f [t0] (-1) 0 0 = some ([t0], 0, 0, 0) := mount_in o0 a0 (by omega) (by simp)
  have f3 : drive_Write.f [t0] 0 0 z = some ([t1], 0, 1, 0) := by
    unfold drive_Write.f writeD
    rw [if_pos ⟨o0, by omega⟩, if_pos a1, if_neg (by decide), if_pos hz, r0, p0, if_pos rfl, ht1]
    rfl
  have f4 : drive_Rewind.f [t1] 0 1 = some ([t1], 0, 0, 0) := rewind_in o1 a2 (by decide)
  have f5 : drive_Read.f [t1] 0 0 = some ([t1], 0, 1, z, 0) := by
    unfold drive_Read.f readD
    rw [if_pos o1, if_pos a3, if_neg (by decide), r1, g1, if_pos rfl]
    rfl
  have f6 : drive_Mark.f [t1] 0 1 = some ([t2], 0, 1, 0) := by
    unfold drive_Mark.f markD
    rw [if_pos o1, if_pos a2, if_neg (by decide), r1, k1]
    rfl
  have f7 : drive_Unmount.f [t2] 0 1 = some ([t2], -1, 0, 0) := unmount_in o2 a4 (by decide)
  rw [← ht0, f0, Option.bind_some, f1, Option.bind_some, f2, Option.bind_some, if_pos (by decide), f3, Option.bind_some, f4, Option.bind_some, f5, Option.bind_some, f6, Option.bind_some, f7, Option.bind_some]
  dsimp only
  rw [if_pos rfl, if_pos rfl, if_pos rfl, if_pos rfl, if_pos rfl, if_pos rfl, if_pos rfl, if_pos (by rw [hzl]; rfl), if_pos rfl, if_pos (by simp), r2, if_pos (by rw [ht2]), if_pos rfl, if_pos rfl]
  unfold drive_May.f
  rw [a5, Option.bind_some, if_pos rfl, same_self, Option.bind_some]
theorem mayT_parts {a : Int} {l : List (List Int)} (h : mayT a l = true) : 0 ≤ a ∧ a ≤ 200 ∧ (l.length : Int) ≤ a ∧ l.all recMay = true := by
  unfold mayT at h
  simpa only [Bool.and_eq_true, decide_eq_true_eq] using h
theorem mayT_of {a : Int} {l : List (List Int)} (h0 : 0 ≤ a) (h1 : a ≤ 200) (h2 : (l.length : Int) ≤ a) (h3 : l.all recMay = true) : mayT a l = true := by
  unfold mayT
  simp only [Bool.and_eq_true, decide_eq_true_eq]
  exact ⟨h0, h1, h2, h3⟩
theorem mayT_snoc {a : Int} {l : List (List Int)} {r : List Int} (h : mayT a l = true) (hr : recMay r = true) (hn : (l.length : Int) ≠ a) : mayT a (l ++ [r]) = true := by
  obtain ⟨h0, h1, h2, h3⟩ := mayT_parts h
  refine mayT_of h0 h1 ?_ ?_
  · rw [List.length_append, List.length_singleton]; omega
  · rw [List.all_append, h3, List.all_cons, List.all_nil, hr]; rfl
theorem mayT_take {a : Int} {l : List (List Int)} (h : mayT a l = true) (n : Nat) : mayT a (l.take n) = true := by
  obtain ⟨h0, h1, h2, h3⟩ := mayT_parts h
  refine mayT_of h0 h1 ?_ ?_
  · rw [List.length_take]; omega
  · rw [List.all_eq_true] at h3 ⊢
    exact fun x hx => h3 x (List.mem_of_mem_take hx)
theorem mayT_at {l : List S41} {i p j : Int} (hm : mayD l i p = true) (h0 : 0 ≤ j) (h1 : j < (l.length : Int)) : mayT (rd_T41 l j).f0 (rd_T41 l j).f1 = true :=
  List.all_eq_true.1 (mayD_parts hm).2.1 _ (List.mem_of_getElem? (rd_at h0 h1))
theorem cut_at {x : S41} {p : Int} (hx : mayT x.f0 x.f1 = true) (h0 : 0 ≤ p) (h1 : p ≤ (x.f1.length : Int)) : cutT x.f0 x.f1 x.f2 p = (x.f0, x.f1.take p.toNat, false, 0) := by
  unfold cutT
  rw [if_pos hx, if_neg (by omega)]
theorem set_mem {l : List S41} {n : Nat} {x y : S41} (h : y ∈ l.set n x) : y = x ∨ y ∈ l := by
  obtain ⟨j, hj⟩ := List.getElem?_of_mem h
  by_cases e : j = n
  · subst e
    have hjl := (List.getElem?_eq_some_iff.1 hj).1
    rw [List.length_set] at hjl
    rw [List.getElem?_set_self hjl] at hj
    exact .inl (Option.some.inj hj).symm
  · rw [List.getElem?_set_ne (Ne.symm e)] at hj
    exact .inr (List.mem_of_getElem? hj)
theorem rd_set {l : List S41} {i : Int} {x : S41} (h0 : 0 ≤ i) (h1 : i < (l.length : Int)) : rd_T41 (l.set i.toNat x) i = x := by
  have h2 := rd_at (l := l.set i.toNat x) (i := i) h0 (by rw [List.length_set]; exact h1)
  rw [List.getElem?_set_self (by omega)] at h2
  exact (Option.some.inj h2).symm
theorem put_ok {x : S41} {p : Int} {z : List Int} (hx : mayT x.f0 x.f1 = true) (h0 : 0 ≤ p) (h1 : p ≤ (x.f1.length : Int)) (hz : recMay z = true) (hp : p ≠ x.f0) : putT x p z = (x.f0, x.f1.take p.toNat ++ [z], false, 0) := by
  unfold putT
  rw [cut_at hx h0 h1]
  dsimp only
  unfold writeT
  rw [if_pos (mayT_take hx _), if_pos hz, if_neg (by rw [List.length_take]; simp; omega)]
theorem put_full {x : S41} {p : Int} {z : List Int} (hx : mayT x.f0 x.f1 = true) (h0 : 0 ≤ p) (h1 : p ≤ (x.f1.length : Int)) (hz : recMay z = true) (hp : p = x.f0) : (putT x p z).2.2.2 = 8 := by
  unfold putT
  rw [cut_at hx h0 h1]
  dsimp only
  unfold writeT
  rw [if_pos (mayT_take hx _), if_pos hz, if_pos (.inr (by rw [List.length_take]; omega))]
theorem mayD_put {l : List S41} {i p : Int} {z : List Int} (hm : mayD l i p = true) (hi : i ≠ -1) (hz : recMay z = true) (hp : p ≠ (rd_T41 l i).f0) :
    mayD (l.set i.toNat ⟨(rd_T41 l i).f0, (rd_T41 l i).f1.take p.toNat ++ [z], false⟩) i (p + 1) = true := by
  obtain ⟨a, b, _, d, _, _⟩ := mayD_parts hm
  obtain ⟨h0, h1, h2, h3⟩ := mayD_in hm hi
  have hx := mayT_at hm h0 h1
  refine mayD_of (by rw [List.length_set]; exact a) (List.all_eq_true.2 (fun y hy => ?_)) (by omega) (by rw [List.length_set]; exact d) (by omega) ?_
  · rcases set_mem hy with rfl | hy
    · exact mayT_snoc (mayT_take hx _) hz (by show ((List.take p.toNat (rd_T41 l i).f1).length : Int) ≠ (rd_T41 l i).f0; rw [List.length_take]; omega)
    · exact List.all_eq_true.1 b y hy
  · unfold mostD
    rw [if_neg hi, rd_set h0 h1]
    show p + 1 ≤ (((rd_T41 l i).f1.take p.toNat ++ [z]).length : Int)
    rw [List.length_append, List.length_take, List.length_singleton]
    omega
theorem rd_take {l : List (List Int)} {m : Nat} {n : Int} (h0 : 0 ≤ n) (h1 : n < (m : Int)) : rd_L1 (l.take m) n = rd_L1 l n := by
  unfold rd_L1
  rw [List.getD_eq_getElem?_getD, List.getD_eq_getElem?_getD, List.getElem?_take_of_lt (by omega)]
theorem rd_front {l l' : List (List Int)} {n : Int} (h0 : 0 ≤ n) (h1 : n < (l.length : Int)) : rd_L1 (l ++ l') n = rd_L1 l n := by
  unfold rd_L1
  rw [List.getD_eq_getElem?_getD, List.getD_eq_getElem?_getD, List.getElem?_append_left (by omega)]
theorem mark_is {x : S41} {p : Int} (hx : mayT x.f0 x.f1 = true) (h0 : 0 ≤ p) (h1 : p ≤ (x.f1.length : Int)) : markS x p = ⟨x.f0, x.f1.take p.toNat, true⟩ := by
  have hc : closeT x.f0 (x.f1.take p.toNat) false = (x.f0, x.f1.take p.toNat, true, 0) := by
    unfold closeT
    rw [if_pos (mayT_take hx _), if_neg (by decide)]
  unfold markS
  rw [cut_at hx h0 h1]
  dsimp only
  rw [hc]
theorem mayD_mark {l : List S41} {i p : Int} (hm : mayD l i p = true) (hi : i ≠ -1) : mayD (l.set i.toNat ⟨(rd_T41 l i).f0, (rd_T41 l i).f1.take p.toNat, true⟩) i p = true := by
  obtain ⟨a, b, _, d, _, _⟩ := mayD_parts hm
  obtain ⟨h0, h1, h2, h3⟩ := mayD_in hm hi
  have hx := mayT_at hm h0 h1
  refine mayD_of (by rw [List.length_set]; exact a) (List.all_eq_true.2 (fun y hy => ?_)) (by omega) (by rw [List.length_set]; exact d) h2 ?_
  · rcases set_mem hy with rfl | hy
    · exact mayT_take hx _
    · exact List.all_eq_true.1 b y hy
  · unfold mostD
    rw [if_neg hi, rd_set h0 h1]
    show p ≤ (((rd_T41 l i).f1.take p.toNat).length : Int)
    rw [List.length_take]
    omega
theorem sized_snoc' {l : List (List Int)} {r : List Int} {n : Nat} (hs : sized l) (hn : l.length ≤ 100) (hr : r.length ≤ 1000000) : sized (l.take n ++ [r]) := by
  refine ⟨by rw [List.length_append, List.length_take, List.length_singleton]; omega, ?_⟩
  rw [List.all_append, Bool.and_eq_true]
  exact ⟨List.all_eq_true.2 (fun x hx => List.all_eq_true.1 hs.2 x (List.mem_of_mem_take hx)), by simpa using hr⟩
theorem sized_cut {l : List (List Int)} (n : Nat) (hs : sized l) : sized (l.take n) :=
  ⟨by rw [List.length_take]; have := hs.1; omega, List.all_eq_true.2 (fun x hx => List.all_eq_true.1 hs.2 x (List.mem_of_mem_take hx))⟩
theorem read_in {a : Int} {l : List (List Int)} {b : Bool} {n : Int} (hs : sized l) (hm : mayT a l = true) (h0 : 0 ≤ n) (h1 : n < (l.length : Int)) : tape_Read.f a l b n = some (rd_L1 l n, 0) := by
  rw [tape_Read.tells _ _ _ _ hs]
  unfold readT
  rw [if_pos hm, if_neg (by omega), if_neg (by omega)]
theorem write_cases {l : List S41} {i p : Int} {r : List Int} (ho : ownable l) (hm : mayD l i p = true) (hi : i ≠ -1) (hr : r.length ≤ 1000000) :
    (∃ e, e ≠ 0 ∧ drive_Write.f l i p r = some (l, i, p, e)) ∨ (recMay r = true ∧ p ≠ (rd_T41 l i).f0 ∧ drive_Write.f l i p r = some (l.set i.toNat ⟨(rd_T41 l i).f0, (rd_T41 l i).f1.take p.toNat ++ [r], false⟩, i, p + 1, 0)) := by
  obtain ⟨h0, h1, h2, h3⟩ := mayD_in hm hi
  have hx := mayT_at hm h0 h1
  unfold drive_Write.f writeD
  rw [if_pos ⟨ho, hr⟩, if_pos hm, if_neg hi]
  by_cases hz : recMay r = true
  · rw [if_pos hz]
    by_cases hp : p = (rd_T41 l i).f0
    · refine .inl ⟨8, by decide, ?_⟩
      rw [put_full hx h2 h3 hz hp, if_neg (by decide)]
    · refine .inr ⟨hz, hp, ?_⟩
      rw [put_ok hx h2 h3 hz hp, if_pos rfl]
  · exact .inl ⟨1, by decide, by rw [if_neg hz]⟩
theorem rd_last {l : List (List Int)} {r : List Int} {p : Int} (h0 : 0 ≤ p) (h1 : (l.length : Int) = p) : rd_L1 (l ++ [r]) p = r := by
  unfold rd_L1
  rw [List.getD_eq_getElem?_getD, List.getElem?_append_right (by omega), show p.toNat - l.length = 0 by omega]
  rfl
theorem rd_set_ne {l : List S41} {i n : Int} {x : S41} (h0 : 0 ≤ i) (h1 : 0 ≤ n) (hne : n ≠ i) : rd_T41 (l.set i.toNat x) n = rd_T41 l n := by
  unfold rd_T41
  rw [List.getD_eq_getElem?_getD, List.getD_eq_getElem?_getD, List.getElem?_set_ne (by omega)]
theorem DriveWrites (l : List S41) (i p : Int) (r : List Int) (n : Int) (ok : DriveOk l i p) (_h1 : r.length ≤ maxLen ∧ ∀ b ∈ r, (Lit.int .u8 b).wf = true) (_h2 : (Lit.int .i64 n).wf = true) : ∃ q, reelkeeperlaw13_DriveWrites.f q l i p r n = some true := by
  obtain ⟨t, ⟨K, g⟩, b⟩ := few_tells l i p ok
  refine ⟨K + 1 + 1, ?_⟩
  unfold reelkeeperlaw13_DriveWrites.f
  rw [awake_tells, Option.bind_some, g _ (by omega), Option.bind_some, if_pos rfl]
  cases t with
  | false => rw [if_neg (by decide)]; simp only [reelkeeperlaw13_DriveWrites.j0]; rw [if_pos trivial]
  | true =>
    obtain ⟨hl, hx⟩ := b rfl
    rw [if_pos rfl]
    by_cases hrl : (r.length : Int) > 12000
    · rw [if_pos hrl]; simp only [reelkeeperlaw13_DriveWrites.j0]; rw [if_pos trivial]
    · rw [if_neg hrl]
      have hmay : drive_May.f l i p = some (mayD l i p) := rfl
      rw [hmay, Option.bind_some]
      cases hm : mayD l i p with
      | false => simp only [reelkeeperlaw13_DriveWrites.j0]; rw [if_pos (by decide)]
      | true =>
        have ho : ownable l := ownable_of (n := 30) (by omega) (by omega) hx
        simp only [reelkeeperlaw13_DriveWrites.j0]
        rw [if_neg (by decide)]
        by_cases hi : i = -1
        · have hwr : drive_Write.f l i p r = some (l, i, p, 9) := by
            unfold drive_Write.f writeD
            rw [if_pos ⟨ho, by omega⟩, if_pos hm, if_pos hi]
          rw [hwr, Option.bind_some]
          dsimp only
          rw [if_neg (by decide), same_self, Option.bind_some]
        · obtain ⟨h0, h1, h2, h3⟩ := mayD_in hm hi
          have hxm := mayT_at hm h0 h1
          have hsx := ownable_at ho h0 h1
          have hln : (rd_T41 l i).f1.length ≤ 30 := (hx _ (List.mem_of_getElem? (rd_at h0 h1))).1
          have hlm : (((rd_T41 l i).f1.take p.toNat).length : Int) = p := by rw [List.length_take]; omega
          have hw : wrap64 (p + 1) = p + 1 := by unfold wrap64; omega
          rcases write_cases (r := r) ho hm hi (by omega) with ⟨e, he, hwr⟩ | ⟨hz, hpc, hwr⟩
          · rw [hwr, Option.bind_some]
            dsimp only
            rw [if_neg he, same_self, Option.bind_some]
          · have hrx : rd_T41 (l.set i.toNat ⟨(rd_T41 l i).f0, (rd_T41 l i).f1.take p.toNat ++ [r], false⟩) i = ⟨(rd_T41 l i).f0, (rd_T41 l i).f1.take p.toNat ++ [r], false⟩ := rd_set h0 h1
            have hlx : (((rd_T41 l i).f1.take p.toNat ++ [r]).length : Int) = p + 1 := by rw [List.length_append, List.length_singleton]; omega
            have hme : mayD (l.set i.toNat ⟨(rd_T41 l i).f0, (rd_T41 l i).f1.take p.toNat ++ [r], false⟩) i (p + 1) = true := mayD_put hm hi hz hpc
            have hne : (p + 1 != p + 1) = false := by simp
            rw [hwr, Option.bind_some]
            dsimp only
            rw [if_pos rfl]
            unfold drive_May.f
            rw [hme, Option.bind_some, if_pos rfl, if_neg (by omega), if_pos rfl, if_pos hw.symm, if_pos (by rw [List.length_set]), if_pos h0, if_pos (by rw [List.length_set]; exact h1), hrx]
            dsimp only
            rw [hlx, hne]
            simp only [reelkeeperlaw13_DriveWrites.j1]
            rw [if_neg (by decide), if_pos h0, if_pos (by rw [List.length_set]; exact h1), hrx]
            dsimp only
            rw [read_in (sized_snoc' hsx (by omega) (by omega)) (mayT_snoc (mayT_take hxm _) hz (by rw [hlm]; exact hpc)) h2 (by rw [hlx]; omega), Option.bind_some, rd_last h2 hlm]
            dsimp only
            rw [if_pos rfl, if_pos rfl]
            by_cases hn0 : n < 0
            · rw [if_pos hn0]
            · rw [if_neg hn0]
              by_cases hn1 : n ≥ (l.length : Int)
              · rw [if_pos hn1]
              · rw [if_neg hn1]
                by_cases hn2 : n = i
                · rw [if_pos hn2]
                · rw [if_neg hn2, if_pos (by omega), if_pos (by rw [List.length_set]; omega), if_pos (by omega), rd_set_ne h0 (by omega) hn2, tape_Same.self, Option.bind_some]
end Go.Proofs.Ytpbfeegfkiegeaa.Pure
