/- Part of a claim: what some functions of the program compute, each with its contract; no condition of its own. Written by a program of this workplace (gen.py, over the print of the kit) and by hand. -/
import Derived.Test.YtckoafndhccomaaM0
import Derived.Test.YtckoafndhccomaaM3
import Derived.Test.YtckoafndhccomaaM8
import Derived.Test.YtckoafndhccomaaM9
import Derived.Test.YtckoafndhccomaaM13
import Derived.Test.YtckoafndhccomaaM22
import Derived.Test.YtckoafndhccomaaM23
import Derived.Test.YtckoafndhccomaaM24
namespace Go.Proofs.Ytckoafndhccomaa.M
open Go.RowKit Go.Proofs.YtckoafndhccomaaW.PrintWords Go.Proofs.YtckoafndhccomaaW.PrintLast Go.Proofs.YtckoafndhccomaaW.PrintMore
attribute [local go_sem] max2_int min2_int max_two min_two max_three min_three max_four min_four   -- for this text's walks alone
set_option linter.unusedVariables false
set_option linter.unusedSimpArgs false

def groupAns (l : List (List Int)) (b : Int) : List (List Int) × Bool := if 1 ≤ b ∧ b ≤ 20 ∧ l.length ≤ 4000 ∧ (l.all fun b => b.length == 512) = true then (groupOf l b.toNat (partsOf l.length b.toNat), true) else ([], false)
theorem group_ans (l : List (List Int)) (b : Int) : record_Group.f l b = some (groupAns l b) := by
  unfold record_Group.f groupAns
  split <;> rfl
/-- A record as far as it is made. -/
def recTo (l : List (List Int)) (b i j : Nat) : List Int := (((padded l b).drop (b * i)).take j).flatten
theorem recTo_succ (l : List (List Int)) (b i j : Nat) (hb : 1 ≤ b) (hj : j < b) (hi : i < partsOf l.length b) : recTo l b i (j + 1) = recTo l b i j ++ (if h : b * i + j < l.length then l[b * i + j] else List.replicate 512 0) := by
  have h2 := padded_length l b hb
  have h3 : b * i + b ≤ b * partsOf l.length b := by
    have : b * (i + 1) ≤ b * partsOf l.length b := Nat.mul_le_mul_left _ hi
    rwa [Nat.mul_add, Nat.mul_one] at this
  have h4 : ((padded l b).drop (b * i))[j]? = some (if h : b * i + j < l.length then l[b * i + j] else List.replicate 512 0) := by
    rw [List.getElem?_drop]
    unfold padded
    by_cases h : b * i + j < l.length
    · rw [dif_pos h, List.getElem?_append_left h, List.getElem?_eq_getElem h]
    · rw [dif_neg h, List.getElem?_append_right (by omega), List.getElem?_replicate, if_pos (by omega)]
  unfold recTo
  rw [List.take_add_one, h4, List.flatten_append]
  congr 1
  exact List.append_nil _
theorem recTo_length (l : List (List Int)) (b i j : Nat) (hb : 1 ≤ b) (h : ∀ x ∈ l, x.length = 512) : (recTo l b i j).length ≤ 512 * j := by
  unfold recTo
  rw [flat_len _ (fun x hx => padded_512 l b h x (List.mem_of_mem_drop (List.mem_of_mem_take hx))), List.length_take]
  omega
theorem reelkeeperref11_Group.inner (l : List (List Int)) (b : Nat) (hb : 1 ≤ b) (hb2 : b ≤ 20) (hl : l.length ≤ 4000) (h : ∀ x ∈ l, x.length = 512) (R : Option (List (List Int) × Bool)) (out : List (List Int)) (i : Nat) (hi : i < partsOf l.length b) (ho : out.length = i) :
    ∀ (d k j : Nat), b - j = d → j ≤ b → d < k → (∀ k2, k - d - 1 ≤ k2 → reelkeeperref11_Group.l0 k2 l (b : Int) (out ++ [recOf l b i]) ((i : Int) + 1) = R) → reelkeeperref11_Group.l1 k l (b : Int) out (i : Int) (recTo l b i j) ((b * i + j : Nat) : Int) = R := by
  have hpc := parts_cover l.length b hb
  have hpn : partsOf l.length b ≤ b * partsOf l.length b := Nat.le_mul_of_pos_left _ hb
  have hbi : b * i < l.length := (parts_lt l.length b i hb).1 hi
  have hw : wrap64 ((b : Int) * (i : Int)) = ((b * i : Nat) : Int) := by rw [← Int.natCast_mul]; exact wrap_id (by omega) (by omega)
  intro d
  induction d with
  | zero =>
    intro k j hd hj hk hR
    obtain ⟨k, rfl⟩ : ∃ m, k = m + 1 := ⟨k - 1, by omega⟩
    obtain rfl : j = b := by omega
    simp only [reelkeeperref11_Group.l1]
    rw [hw, wrap_id (x := ((j * i : Nat) : Int) + (j : Int)) (by omega) (by omega), if_neg (by omega), if_pos (by omega), wrap_id (by omega) (by omega)]
    have : recTo l j i j = recOf l j i := (recOf_window l j i hb h hi).symm
    rw [this]
    exact hR k (by omega)
  | succ d ih =>
    intro k j hd hj hk hR
    obtain ⟨k, rfl⟩ : ∃ m, k = m + 1 := ⟨k - 1, by omega⟩
    have h5 := recTo_length l b i j hb h
    have h6 := recTo_succ l b i j hb (by omega) hi
    have h7 := ih k (j + 1) (by omega) (by omega) (by omega) (fun k2 hk2 => hR k2 (by omega))
    simp only [reelkeeperref11_Group.l1]
    rw [hw, wrap_id (x := ((b * i : Nat) : Int) + (b : Int)) (by omega) (by omega), if_pos (by omega), wrap_id (x := ((b * i + j : Nat) : Int) + 1) (by omega) (by omega)]
    rw [show ((b * i + (j + 1) : Nat) : Int) = ((b * i + j : Nat) : Int) + 1 by omega] at h7
    by_cases c : b * i + j < l.length
    · have h8 : rd_L1 l ((b * i + j : Nat) : Int) = l[b * i + j] := by
        rw [rd_L1_at _ _ (by rw [Int.toNat_natCast]; exact c)]
        rfl
      rw [dif_pos c] at h6
      rw [if_pos (by omega), if_pos (by omega), h8, h _ (List.getElem_mem c), if_pos (by omega), ← h6]
      exact h7
    · rw [dif_neg c] at h6
      rw [if_neg (by omega), if_pos (by omega), ← h6]
      exact h7
theorem reelkeeperref11_Group.ends (l : List (List Int)) (b : Nat) (hb : 1 ≤ b) (hb2 : b ≤ 20) (hl : l.length ≤ 4000) (h : ∀ x ∈ l, x.length = 512) : ∀ (d k i : Nat), partsOf l.length b - i = d → i ≤ partsOf l.length b → 100 * d + 2 < k → reelkeeperref11_Group.l0 k l (b : Int) (groupOf l b i) (i : Int) = some (groupOf l b (partsOf l.length b), true) := by
  have hpc := parts_cover l.length b hb
  have hpn : partsOf l.length b ≤ b * partsOf l.length b := Nat.le_mul_of_pos_left _ hb
  intro d
  induction d with
  | zero =>
    intro k i hd hi hk
    obtain ⟨k, rfl⟩ : ∃ m, k = m + 1 := ⟨k - 1, by omega⟩
    obtain rfl : i = partsOf l.length b := by omega
    simp only [reelkeeperref11_Group.l0]
    rw [reelkeeperref11_Many.tells _ _ (by omega) (by omega) k (by omega), Option.bind_some, manyR_parts _ _ hb hb2, if_neg (by omega)]
  | succ d ih =>
    intro k i hd hi hk
    obtain ⟨k, rfl⟩ : ∃ m, k = m + 1 := ⟨k - 1, by omega⟩
    have hbi : b * i < l.length := (parts_lt l.length b i hb).1 (by omega)
    have hw : wrap64 ((b : Int) * (i : Int)) = ((b * i : Nat) : Int) := by rw [← Int.natCast_mul]; exact wrap_id (by omega) (by omega)
    simp only [reelkeeperref11_Group.l0]
    rw [reelkeeperref11_Many.tells _ _ (by omega) (by omega) k (by omega), Option.bind_some, manyR_parts _ _ hb hb2, if_pos (by omega), hw]
    have e0 : ([] : List Int) = recTo l b i 0 := by unfold recTo; rw [List.take_zero]; rfl
    rw [e0]
    refine reelkeeperref11_Group.inner l b hb hb2 hl h _ _ i (by omega) (groupOf_length _ _ _) b k 0 (by omega) (by omega) (by omega) (fun k2 hk2 => ?_)
    rw [← groupOf_succ]
    exact ih k2 (i + 1) (by omega) (by omega) (by omega)
theorem reelkeeperref11_Group.tells (l : List (List Int)) (b : Int) (hm : l.length ≤ 9223372036854775807) : Ev (fun k => reelkeeperref11_Group.f k l b) (groupAns l b) := by
  obtain ⟨K, hK⟩ := reelkeeperref03_May.tells l hm
  obtain ⟨K2, h2⟩ := Ev.of (fun k => reelkeeperref03_May.mono l k) hK
  refine ⟨K2 + 500000, fun k hk => ?_⟩
  have g2 : reelkeeperref03_May.f k l = some (l.all fun b => b.length == 512) := h2 k (by omega)
  obtain ⟨k, rfl⟩ : ∃ m, k = m + 1 := ⟨k - 1, by omega⟩
  show reelkeeperref11_Group.f (k + 1) l b = _
  unfold reelkeeperref11_Group.f groupAns
  rw [g2, Option.bind_some]
  simp only [reelkeeperref11_Group.j0]
  cases hal : (l.all fun b => b.length == 512) with
  | false => rw [if_neg (by decide), if_pos trivial, if_neg (by simp)]
  | true =>
    have al : ∀ x ∈ l, x.length = 512 := fun x hx => by simpa using List.all_eq_true.1 hal x hx
    rw [if_pos rfl]
    by_cases c1 : b < 1
    · rw [if_pos c1, if_pos trivial, if_neg (by omega)]
    · rw [if_neg c1]
      by_cases c2 : b > 20
      · rw [if_pos c2, if_pos trivial, if_neg (by omega)]
      · rw [if_neg c2]
        by_cases c3 : (l.length : Int) > 4000
        · rw [if_pos (by simpa using c3), if_neg (by omega)]
        · obtain ⟨m, rfl⟩ := Int.eq_ofNat_of_zero_le (show 0 ≤ b by omega)
          have hpc := parts_cover l.length m (by omega)
          have hpn : partsOf l.length m ≤ m * partsOf l.length m := Nat.le_mul_of_pos_left _ (by omega)
          rw [if_neg (by simpa using c3), if_pos ⟨by omega, by omega, by omega, rfl⟩, Int.toNat_natCast]
          exact reelkeeperref11_Group.ends l m (by omega) (by omega) (by omega) al (partsOf l.length m) k 0 (by omega) (by omega) (by omega)

/-! ### reelkeeperref11_May: function 17 -/
def reelkeeperref11_May.f (l0 : List Int) : Option (Bool) := if (l0.length : Int) ≥ 512 then (if (l0.length : Int) ≤ 10240 then (some (((l0.length : Int) % 512) == 0)) else (some false)) else (some false)
set_option maxHeartbeats 8000000 in
set_option maxRecDepth 100000 in
theorem reelkeeperref11_May.calls (A0 : Option Addr) (c0 : Nat) (l0 : List Int) (r : Bool) (w : World) (hr0 : Kd.C (Kd.int .u8) w A0 l0.length l0) (hc0 : l0.length ≤ c0) (h : reelkeeperref11_May.f l0 = some r) :
    Calls Try.prog 17 #[.slice A0 l0.length c0] w fun e w' => e = .returned (.bool r) ∧ Drawn0 w w' := by
  have HR0 := Aside0.mk hr0
  have HC0 := Aside0.mk hc0
  clear hr0 hc0
  have H : (if (l0.length : Int) ≥ 512 then (if (l0.length : Int) ≤ 10240 then (some (((l0.length : Int) % 512) == 0)) else (some false)) else (some false)) = some r := h
  clear h
  by_cases c2 : (l0.length : Int) ≥ 512
  · rw [if_pos c2] at H
    have c2b0 : decide (512 ≤ (l0.length : Int)) = true := decide_eq_true c2
    have c2b1 : decide (512 ≤ l0.length) = true := decide_eq_true (by omega)
    clear c2
    by_cases c3 : (l0.length : Int) ≤ 10240
    · rw [if_pos c3] at H
      have c3b0 : decide ((l0.length : Int) ≤ 10240) = true := decide_eq_true c3
      have c3b1 : decide (l0.length ≤ 10240) = true := decide_eq_true (by omega)
      clear c3
      obtain rfl := Option.some.inj H
      go_enter Try.func17, Try.ntmps17
      go_wp2
      go_ret
      exact ⟨by first | rfl | (simp; done) | (simp [*]; done), by repeat (first | exact Drawn0.refl _ | apply Drawn0.step)⟩
    · rw [if_neg c3] at H
      have c3b0 : decide ((l0.length : Int) ≤ 10240) = false := decide_eq_false c3
      have c3b1 : decide (l0.length ≤ 10240) = false := decide_eq_false (by omega)
      clear c3
      obtain rfl := Option.some.inj H
      go_enter Try.func17, Try.ntmps17
      go_wp2
      go_ret
      exact ⟨by first | rfl | (simp; done) | (simp [*]; done), by repeat (first | exact Drawn0.refl _ | apply Drawn0.step)⟩
  · rw [if_neg c2] at H
    have c2b0 : decide (512 ≤ (l0.length : Int)) = false := decide_eq_false c2
    have c2b1 : decide (512 ≤ l0.length) = false := decide_eq_false (by omega)
    clear c2
    obtain rfl := Option.some.inj H
    go_enter Try.func17, Try.ntmps17
    go_wp2
    go_ret
    exact ⟨by first | rfl | (simp; done) | (simp [*]; done), by repeat (first | exact Drawn0.refl _ | apply Drawn0.step)⟩

end Go.Proofs.Ytckoafndhccomaa.M
