/- Part of a claim: what some functions of the program compute, each with its contract; no condition of its own. Written by a program of this workplace (gen.py, over the print of the kit) and by hand. -/
import Derived.Test.YtpbfeegfkiegeaaM0
import Derived.Test.YtpbfeegfkiegeaaM9
import Derived.Test.YtpbfeegfkiegeaaM14
namespace Go.Proofs.Ytpbfeegfkiegeaa.M
open Go.RowKit Go.Proofs.YtpbfeegfkiegeaaW.PrintWords Go.Proofs.YtpbfeegfkiegeaaW.PrintLast Go.Proofs.YtpbfeegfkiegeaaW.PrintMore
attribute [local go_sem] max2_int min2_int max_two min_two max_three min_three max_four min_four   -- for this text's walks alone
set_option linter.unusedVariables false
set_option linter.unusedSimpArgs false

mutual
def reelkeeperlaw11_FewRecs.l0 : Nat → List (List Int) → Int → Int → Option (Bool)
  | 0, _, _, _ => none
  | k + 1, x0, x3, x4 => if x4 < (x0.length : Int) then (reelkeeperlaw11_FewRecs.j1 k x0 x3 x4 (decide (x4 ≤ 60))) else (reelkeeperlaw11_FewRecs.j1 k x0 x3 x4 false)
def reelkeeperlaw11_FewRecs.j1 : Nat → List (List Int) → Int → Int → Bool → Option (Bool)
  | 0, _, _, _, _ => none
  | k + 1, x0, x3, x4, x12 => if x12 = true then (if 0 ≤ x4 then (if x4 < (x0.length : Int) then (if ((rd_L1 x0 x4).length : Int) > 12000 then (some false) else (reelkeeperlaw11_FewRecs.l0 k x0 (wrap64 (x3 + ((rd_L1 x0 x4).length : Int))) (wrap64 (x4 + 1)))) else (none)) else (none)) else (if (x0.length : Int) ≤ 60 then (some (decide (x3 ≤ 100000))) else (some false))
end
def reelkeeperlaw11_FewRecs.f (k : Nat) (l0 : List (List Int)) : Option (Bool) := reelkeeperlaw11_FewRecs.l0 k l0 0 0
theorem reelkeeperlaw11_FewRecs.mono_l : ∀ k, (∀ y0 y1 y2, LeO (reelkeeperlaw11_FewRecs.l0 k y0 y1 y2) (reelkeeperlaw11_FewRecs.l0 (k + 1) y0 y1 y2)) ∧ (∀ y0 y1 y2 y3, LeO (reelkeeperlaw11_FewRecs.j1 k y0 y1 y2 y3) (reelkeeperlaw11_FewRecs.j1 (k + 1) y0 y1 y2 y3))
  | 0 => ⟨fun _ _ _ r h => by simp [reelkeeperlaw11_FewRecs.l0] at h, fun _ _ _ _ r h => by simp [reelkeeperlaw11_FewRecs.j1] at h⟩
  | k + 1 => by
    obtain ⟨ih0, ih1⟩ := reelkeeperlaw11_FewRecs.mono_l k
    refine ⟨?_, ?_⟩
    · intro y0 y1 y2
      unfold reelkeeperlaw11_FewRecs.l0
      repeat' first
      | (with_reducible exact ih0 _ _ _)
      | (with_reducible exact ih1 _ _ _ _)
      | (with_reducible exact LeO.refl _)
      | (with_reducible exact LeO.none _)
      | (with_reducible refine LeO.ite ?_ ?_)
      | (with_reducible refine LeO.bind ?_ (fun _ => ?_))
      | exact ih0 _ _ _
      | exact ih1 _ _ _ _
      | exact LeO.none _
      | refine LeO.ite ?_ ?_
      | refine LeO.bind ?_ (fun _ => ?_)
    · intro y0 y1 y2 y3
      unfold reelkeeperlaw11_FewRecs.j1
      repeat' first
      | (with_reducible exact ih0 _ _ _)
      | (with_reducible exact ih1 _ _ _ _)
      | (with_reducible exact LeO.refl _)
      | (with_reducible exact LeO.none _)
      | (with_reducible refine LeO.ite ?_ ?_)
      | (with_reducible refine LeO.bind ?_ (fun _ => ?_))
      | exact ih0 _ _ _
      | exact ih1 _ _ _ _
      | exact LeO.none _
      | refine LeO.ite ?_ ?_
      | refine LeO.bind ?_ (fun _ => ?_)
theorem reelkeeperlaw11_FewRecs.mono : ∀ a0 k, LeO (reelkeeperlaw11_FewRecs.f k a0) (reelkeeperlaw11_FewRecs.f (k + 1) a0) := by
  intro a0 k
  obtain ⟨ih0, ih1⟩ := reelkeeperlaw11_FewRecs.mono_l k
  unfold reelkeeperlaw11_FewRecs.f
  repeat' first
      | (with_reducible exact ih0 _ _ _)
      | (with_reducible exact ih1 _ _ _ _)
      | (with_reducible exact LeO.refl _)
      | (with_reducible exact LeO.none _)
      | (with_reducible refine LeO.ite ?_ ?_)
      | (with_reducible refine LeO.bind ?_ (fun _ => ?_))
      | exact ih0 _ _ _
      | exact ih1 _ _ _ _
      | exact LeO.none _
      | refine LeO.ite ?_ ?_
      | refine LeO.bind ?_ (fun _ => ?_)
set_option maxHeartbeats 8000000 in
set_option maxRecDepth 100000 in
theorem reelkeeperlaw11_FewRecs.calls (k : Nat) (A0 : Option Addr) (c0 : Nat) (l0 : List (List Int)) (r : Bool) (w : World) (hr0 : Kd.C (Kd.slice 5 (Kd.int .u8)) w A0 l0.length l0) (hc0 : l0.length ≤ c0) (h : reelkeeperlaw11_FewRecs.f k l0 = some r) :
  Calls Try.prog 32 #[.slice A0 l0.length c0] w fun e w' => e = .returned (.bool r) ∧ Drawn0 w w' := by
 have HR0 := zA hr0; have HC0 := zA hc0; clear hr0 hc0; have H : (reelkeeperlaw11_FewRecs.l0 k l0 0 0) = some r := h; clear h; have H' := zA H; clear H
 go_enter Try.func32, Try.ntmps32
 go_wp2
 go_loopg [3, 4] k (fun kq v3 v4 w' => ∃ (x3_1 : Int) (x4_1 : Int), v3 = .int .i64 x3_1 ∧ v4 = .int .i64 x4_1 ∧ Aside0 (reelkeeperlaw11_FewRecs.l0 kq l0 x3_1 x4_1 = some r) ∧ Aside0 (kq ≤ k) ∧ Drawn0 w w')
 case atStart => exact ⟨(0), (0), (by first | rfl | (simp; done) | (simp [*]; done)), (by first | rfl | (simp; done) | (simp [*]; done)), H', ⟨Nat.le_refl _⟩, by repeat (first | exact Drawn0.refl _ | apply Drawn0.step)⟩
 case round =>
  clear H'; obtain ⟨x3_1, x4_1, rfl, rfl, HA, HK1, ⟨m1, rfl⟩⟩ := hrel
  cases gk with
  | zero => exact absurd HA.out (by simp [reelkeeperlaw11_FewRecs.l0])
  | succ k1 =>
   have H := HA.out; clear HA
   simp only [reelkeeperlaw11_FewRecs.l0] at H
   have HC2 := zA H; clear H
   go_upto_region 3 with (fail)
   go_cut [12] (fun v12 wc => ∃ (kq : Nat) (x12_1 : Bool), v12 = .bool x12_1 ∧ Aside0 (reelkeeperlaw11_FewRecs.j1 kq l0 x3_1 x4_1 x12_1 = some r) ∧ Aside0 (kq ≤ k1) ∧ Drawn0 w wc)
   case first =>
    have H := HC2.out; clear HC2
    by_cases c3 : x4_1 < (l0.length : Int)
    ·rw [if_pos c3] at H
     have c3b0 : decide (x4_1 < (l0.length : Int)) = true := decide_eq_true c3; clear c3
     (first | rw [c3b0] | (simp only [i64_w, i32_w]; rw [c3b0]) | skip)
     have H' := zA H; clear H
     go_wp2
     go_meet
     case rel => exact ⟨_, (decide (x4_1 ≤ 60)), (by first | rfl | (simp; done) | (simp [*]; done)), H', ⟨by have := HK1.out; first | omega | exact Nat.le_refl _⟩, by repeat (first | exact Drawn0.refl _ | apply Drawn0.step)⟩
    ·rw [if_neg c3] at H
     have c3b0 : decide (x4_1 < (l0.length : Int)) = false := decide_eq_false c3; clear c3
     (first | rw [c3b0] | (simp only [i64_w, i32_w]; rw [c3b0]) | skip)
     have H' := zA H; clear H
     go_wp2
     go_meet
     case rel => exact ⟨_, (false), (by first | rfl | (simp; done) | (simp [*]; done)), H', ⟨by have := HK1.out; first | omega | exact Nat.le_refl _⟩, by repeat (first | exact Drawn0.refl _ | apply Drawn0.step)⟩
   case rest =>
    clear HC2
    try clear p2
    try clear c3
    try clear c3b0
    obtain ⟨kq, x12_1, rfl, HA, HJ1, ⟨mc1, rfl⟩⟩ := hcut
    cases kq with
    | zero => exact absurd HA.out (by simp [reelkeeperlaw11_FewRecs.j1])
    | succ kj1 =>
     have H := HA.out; clear HA
     simp only [reelkeeperlaw11_FewRecs.j1] at H
     by_cases c4 : x12_1 = true
     ·subst c4
      have H1 : (if 0 ≤ x4_1 then (if x4_1 < (l0.length : Int) then (if ((rd_L1 l0 x4_1).length : Int) > 12000 then (some false) else (reelkeeperlaw11_FewRecs.l0 kj1 l0 (wrap64 (x3_1 + ((rd_L1 l0 x4_1).length : Int))) (wrap64 (x4_1 + 1)))) else (none)) else (none)) = some r := by rw [if_pos rfl] at H; exact H
      clear H; have H := H1; clear H1
      by_cases c5 : 0 ≤ x4_1
      ·rw [if_pos c5] at H
       have c5b0 : decide (0 ≤ x4_1) = true := decide_eq_true c5; clear c5
       by_cases c6 : x4_1 < (l0.length : Int)
       ·rw [if_pos c6] at H
        have c6b0 : decide (x4_1 < (l0.length : Int)) = true := decide_eq_true c6; clear c6
        by_cases c7 : ((rd_L1 l0 x4_1).length : Int) > 12000
        ·rw [if_pos c7] at H
         have c7b0 : decide (12000 < ((rd_L1 l0 x4_1).length : Int)) = true := decide_eq_true c7; have c7b1 : decide (12000 < (rd_L1 l0 x4_1).length) = true := decide_eq_true (by omega); clear c7; obtain rfl := Option.some.inj H; have p234 : 0 ≤ (x4_1 : Int) := of_decide_eq_true (by assumption); have q234 : x4_1 < (l0.length : Int) := of_decide_eq_true (by assumption); obtain ⟨ad234, A234_0, c234_0, e234, hx234_0, hl234_0, hi234_0⟩ := at_L1 HR0.out x4_1 p234 q234; cases e234; have HR234_0 := zA hi234_0; have HC234_0 := zA hl234_0; clear hi234_0 hl234_0; replace p234 := eq_true p234; replace q234 := eq_true q234; have p235 : 0 ≤ (x4_1 : Int) := of_decide_eq_true (by assumption); have q235 : x4_1 < (l0.length : Int) := of_decide_eq_true (by assumption); obtain ⟨ad235, A235_0, c235_0, e235, hx235_0, hl235_0, hi235_0⟩ := at_L1 HR0.out x4_1 p235 q235; obtain rfl : ad234 = ad235 := (by injection e235); have HR235_0 := zA hi235_0; have HC235_0 := zA hl235_0; clear hi235_0 hl235_0; replace p235 := eq_true p235; replace q235 := eq_true q235; have ea_ := Option.some.inj (hx234_0.symm.trans hx235_0)
         injection ea_ with ea_ en_ ec_
         subst ea_; subst ec_; clear en_
         go_wp2
         go_ret
         exact ⟨by first | rfl | (simp; done) | (simp [*]; done), by repeat (first | exact Drawn0.refl _ | apply Drawn0.step)⟩
        ·rw [if_neg c7] at H
         have c7b0 : decide (12000 < ((rd_L1 l0 x4_1).length : Int)) = false := decide_eq_false c7; have c7b1 : decide (12000 < (rd_L1 l0 x4_1).length) = false := decide_eq_false (by omega); clear c7; have H' := zA H; clear H; have p234 : 0 ≤ (x4_1 : Int) := of_decide_eq_true (by assumption); have q234 : x4_1 < (l0.length : Int) := of_decide_eq_true (by assumption); obtain ⟨ad234, A234_0, c234_0, e234, hx234_0, hl234_0, hi234_0⟩ := at_L1 HR0.out x4_1 p234 q234; cases e234; have HR234_0 := zA hi234_0; have HC234_0 := zA hl234_0; clear hi234_0 hl234_0; replace p234 := eq_true p234; replace q234 := eq_true q234; have p235 : 0 ≤ (x4_1 : Int) := of_decide_eq_true (by assumption); have q235 : x4_1 < (l0.length : Int) := of_decide_eq_true (by assumption); obtain ⟨ad235, A235_0, c235_0, e235, hx235_0, hl235_0, hi235_0⟩ := at_L1 HR0.out x4_1 p235 q235; obtain rfl : ad234 = ad235 := (by injection e235); have HR235_0 := zA hi235_0; have HC235_0 := zA hl235_0; clear hi235_0 hl235_0; replace p235 := eq_true p235; replace q235 := eq_true q235; have ea_ := Option.some.inj (hx234_0.symm.trans hx235_0)
         injection ea_ with ea_ en_ ec_
         subst ea_; subst ec_; clear en_
         go_wp2
         go_roundg kj1
         case measure => have := HK1.out; have := HJ1.out; omega
         case rel => exact ⟨(wrap64 (x3_1 + ((rd_L1 l0 x4_1).length : Int))), (wrap64 (x4_1 + 1)), (by first | rfl | (simp; done) | (simp [*]; done)), (by first | rfl | (simp; done) | (simp [*]; done)), H', ⟨by have := HK1.out; have := HJ1.out; omega⟩, by repeat (first | exact Drawn0.refl _ | apply Drawn0.step)⟩
       ·rw [if_neg c6] at H
        exact absurd H (by simp)
      ·rw [if_neg c5] at H
       exact absurd H (by simp)
     ·replace c4 := Bool.eq_false_iff.mpr c4
      subst c4
      have H1 : (if (l0.length : Int) ≤ 60 then (some (decide (x3_1 ≤ 100000))) else (some false)) = some r := by rw [if_neg (show ¬ (false = true) by decide)] at H; exact H
      clear H; have H := H1; clear H1
      by_cases c8 : (l0.length : Int) ≤ 60
      ·rw [if_pos c8] at H
       have c8b0 : decide ((l0.length : Int) ≤ 60) = true := decide_eq_true c8; have c8b1 : decide (l0.length ≤ 60) = true := decide_eq_true (by omega); clear c8; obtain rfl := Option.some.inj H
       go_wp2
       go_ret
       exact ⟨by first | rfl | (simp; done) | (simp [*]; done), by repeat (first | exact Drawn0.refl _ | apply Drawn0.step)⟩
      ·rw [if_neg c8] at H
       have c8b0 : decide ((l0.length : Int) ≤ 60) = false := decide_eq_false c8; have c8b1 : decide (l0.length ≤ 60) = false := decide_eq_false (by omega); clear c8; obtain rfl := Option.some.inj H
       go_wp2
       go_ret
       exact ⟨by first | rfl | (simp; done) | (simp [*]; done), by repeat (first | exact Drawn0.refl _ | apply Drawn0.step)⟩

theorem reelkeeperlaw11_FewRecs.ends (l : List (List Int)) (hm : l.length ≤ 9223372036854775807) (d : Nat) : ∀ (k : Nat) (s i : Int), 0 ≤ i → i ≤ 61 → i ≤ l.length → 61 - i = d → 2 * d + 2 < k → 0 ≤ s → s ≤ 12000 * i → (∀ j, j < i.toNat → (rd_L1 l (j : Int)).length ≤ 12000) →
    ∃ b, reelkeeperlaw11_FewRecs.l0 k l s i = some b ∧ (b = true → l.length ≤ 60 ∧ ∀ j, j < l.length → (rd_L1 l (j : Int)).length ≤ 12000) := by
  induction d with
  | zero =>
    intro k s i h0 h1 h2 hd hk hs0 hs1 hj
    obtain ⟨k, rfl⟩ : ∃ m, k = m + 2 := ⟨k - 2, by omega⟩
    refine ⟨false, ?_, fun h => by cases h⟩
    simp only [reelkeeperlaw11_FewRecs.l0]
    have hl : ¬ (l.length : Int) ≤ 60 := by omega
    by_cases hlt : i < (l.length : Int)
    · rw [if_pos hlt, decide_eq_false (by omega)]; simp only [reelkeeperlaw11_FewRecs.j1]; rw [if_neg (by decide), if_neg hl]
    · rw [if_neg hlt]; simp only [reelkeeperlaw11_FewRecs.j1]; rw [if_neg (by decide), if_neg hl]
  | succ d ih =>
    intro k s i h0 h1 h2 hd hk hs0 hs1 hj
    obtain ⟨k, rfl⟩ : ∃ m, k = m + 2 := ⟨k - 2, by omega⟩
    simp only [reelkeeperlaw11_FewRecs.l0]
    by_cases hlt : i < (l.length : Int)
    · rw [if_pos hlt, decide_eq_true (by omega)]
      simp only [reelkeeperlaw11_FewRecs.j1, if_true]
      rw [if_pos h0, if_pos hlt]
      by_cases h6 : ((rd_L1 l i).length : Int) > 12000
      · rw [if_pos h6]; exact ⟨false, rfl, fun h => by cases h⟩
      · rw [if_neg h6, wrap_id (x := i + 1) (by omega) (by omega), wrap_id (by omega) (by omega)]
        refine ih k (s + ((rd_L1 l i).length : Int)) (i + 1) (by omega) (by omega) (by omega) (by omega) (by omega) (by omega) (by omega) (fun j hj2 => ?_)
        by_cases e : j = i.toNat
        · subst e; rw [show ((i.toNat : Nat) : Int) = i by omega]; omega
        · exact hj j (by omega)
    · rw [if_neg hlt]
      simp only [reelkeeperlaw11_FewRecs.j1]
      rw [if_neg (by decide)]
      by_cases h7 : (l.length : Int) ≤ 60
      · rw [if_pos h7]
        exact ⟨_, rfl, fun _ => ⟨by omega, fun j hj2 => hj j (by omega)⟩⟩
      · rw [if_neg h7]
        exact ⟨false, rfl, fun h => by cases h⟩
theorem reelkeeperlaw11_FewRecs.tells (l : List (List Int)) (hm : l.length ≤ 9223372036854775807) : ∃ b, Ev (fun k => reelkeeperlaw11_FewRecs.f k l) b ∧ (b = true → l.length ≤ 60 ∧ ∀ x ∈ l, x.length ≤ 12000) := by
  obtain ⟨b, h1, h2⟩ := reelkeeperlaw11_FewRecs.ends l hm 61 200 0 0 (by omega) (by omega) (by omega) (by omega) (by omega) (by omega) (by omega) (fun j hj => by simp at hj)
  refine ⟨b, Ev.of (fun k => reelkeeperlaw11_FewRecs.mono l k) (k := 200) h1, fun hb => ⟨(h2 hb).1, fun x hx => ?_⟩⟩
  obtain ⟨j, hj, rfl⟩ := List.getElem_of_mem hx
  have := (h2 hb).2 j hj
  simpa [rd_L1, List.getD_eq_getElem?_getD, hj] using this

end Go.Proofs.Ytpbfeegfkiegeaa.M
