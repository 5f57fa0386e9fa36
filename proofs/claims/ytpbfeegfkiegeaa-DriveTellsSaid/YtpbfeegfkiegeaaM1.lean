/- Part of a claim: what some functions of the program compute, each with its contract; no condition of its own. Written by a program of this workplace (gen.py, over the print of the kit) and by hand. -/
import Derived.Test.YtpbfeegfkiegeaaM0
namespace Go.Proofs.Ytpbfeegfkiegeaa.M
open Go.RowKit Go.Proofs.YtpbfeegfkiegeaaW.PrintWords Go.Proofs.YtpbfeegfkiegeaaW.PrintLast Go.Proofs.YtpbfeegfkiegeaaW.PrintMore
attribute [local go_sem] max2_int min2_int max_two min_two max_three min_three max_four min_four   -- for this text's walks alone
set_option linter.unusedVariables false
set_option linter.unusedSimpArgs false

def rdRow {α : Type} (xs : List (List α)) (i : Int) : List α := xs.getD i.toNat []
theorem at_row {α : Type} {e : Nat} {d : Kd α} {w : World} {A : Option Addr} {n : Nat} {xs : List (List α)} (h : Kd.C (Kd.slice e d) w A n xs) (i : Int) (h0 : 0 ≤ i) (h1 : i < n) :
    ∃ ad A0 c0, A = some ad ∧ w.cell? (ad.add i.toNat) = some (.slice A0 (rdRow xs i).length c0) ∧ (rdRow xs i).length ≤ c0 ∧ d.C w A0 (rdRow xs i).length (rdRow xs i) := by
  obtain ⟨ad, c, e, _, hK, hc0⟩ := Kd.C_get h ([] : List α) i h0 h1
  obtain ⟨A0, c0, rfl, l0, g0⟩ := hK
  exact ⟨ad, A0, c0, e, by have hq := hc0 0 _ rfl; rwa [show (Kd.slice _ d).sz = 1 from rfl, Nat.mul_one, Nat.add_zero] at hq, l0, g0⟩
def fidx {α : Type} (p : α → Bool) (l : List α) : Int := if l.any p = true then (l.findIdx p : Int) else -1
theorem fidx_ge {α : Type} (p : α → Bool) (l : List α) : decide (0 ≤ fidx p l) = l.any p := by
  unfold fidx
  by_cases h : l.any p = true
  · rw [if_pos h, h]; simp
  · rw [if_neg h]; simp at h ⊢; exact h
theorem fidx_hit {α : Type} (p : α → Bool) (l : List α) (z : α) (k : Nat) (hk : k < l.length) (hp : p (l.getD k z) = true) (hb : ∀ j, j < k → p (l.getD j z) = false) : fidx p l = k := by
  have e : ∀ j (hj : j < l.length), l.getD j z = l[j] := fun j hj => by simp [List.getD_eq_getElem?_getD, hj]
  have ha : l.any p = true := List.any_eq_true.2 ⟨l[k], List.getElem_mem hk, by rw [← e k hk]; exact hp⟩
  unfold fidx
  rw [if_pos ha, (List.findIdx_eq hk).2 ⟨by rw [← e k hk]; exact hp, fun j hj => by rw [← e j (by omega)]; exact hb j hj⟩]
theorem fidx_miss {α : Type} (p : α → Bool) (l : List α) (z : α) (hb : ∀ j, j < l.length → p (l.getD j z) = false) : fidx p l = -1 := by
  unfold fidx
  rw [if_neg]
  intro ha
  obtain ⟨x, hx, hp⟩ := List.any_eq_true.1 ha
  obtain ⟨j, hj, rfl⟩ := List.getElem_of_mem hx
  have := hb j hj
  rw [show l.getD j z = l[j] from by simp [List.getD_eq_getElem?_getD, hj]] at this
  rw [this] at hp
  cases hp
theorem wrap_step {x : Int} (h0 : -1 ≤ x) (h1 : x ≤ 9223372036854775806) : Value.int .i64 (wrap64 (x + 1)) = .int .i64 (x + 1) := by
  have : wrap64 (x + 1) = x + 1 := by unfold wrap64; omega
  rw [this]
def PredRow (g : Nat) (p : List Int → Bool) : Prop :=
  ∀ (W : World) (A : Option Addr) (c : Nat) (l : List Int), (Kd.int .u8).C W A l.length l → l.length ≤ c → Calls Try.prog g #[.slice A l.length c] W fun e w' => e = .returned (.bool (p l)) ∧ Drawn0 W w'
set_option maxHeartbeats 8000000 in
set_option maxRecDepth 100000 in
theorem idx_rows (g : Nat) (p : List Int → Bool) (eg : ∀ args w, (callFunc g args).run Try.prog w = .ok (.enter g args) w) (hp : PredRow g p) (A0 : Option Addr) (c0 : Nat) (l0 : List (List Int)) (w : World)
    (hr0 : Kd.C (Kd.slice 5 (Kd.int .u8)) w A0 l0.length l0) (hc0 : l0.length ≤ c0) :
    Calls Try.prog 71 #[.slice A0 l0.length c0, .func (.func g) #[] #[]] w fun e w' => e = .returned (.int .i64 (fidx p l0)) ∧ Drawn0 w w' := by
  have HR0 := Aside0.mk hr0
  have HC0 := Aside0.mk hc0
  have HP := Aside0.mk hp
  have HM := Aside0.mk hr0.2.1
  clear hr0 hc0 hp
  go_enter Try.func71, Try.ntmps71
  go_wp2
  go_loopg [5, 8] l0.length (fun kq _ v8 w' => ∃ (x8 : Int), v8 = .int .i64 x8 ∧ Aside0 (0 ≤ x8 ∧ x8 ≤ l0.length ∧ l0.length - x8.toNat ≤ kq ∧ ∀ j, j < x8.toNat → p (l0.getD j []) = false) ∧ Drawn0 w w')
  case atStart => exact ⟨0, rfl, ⟨by omega, by omega, by omega, fun j hj => by simp at hj⟩, by repeat (first | exact Drawn0.refl _ | apply Drawn0.step)⟩
  case round =>
    obtain ⟨x8, rfl, HI, ⟨m1, rfl⟩⟩ := hrel
    by_cases c2 : x8 < (l0.length : Int)
    · have c2b0 : decide (x8 < (l0.length : Int)) = true := decide_eq_true c2
      have p1 : 0 ≤ x8 := HI.out.1
      obtain ⟨ad, A1, c1, e1, hx1, hl1, hi1⟩ := at_row HR0.out x8 p1 c2
      cases e1
      have HL1 := Aside0.mk hl1
      have HI1 := Aside0.mk hi1
      have p2 : x8 ≤ 9223372036854775806 := by have := HM.out; omega
      have HT := Aside0.mk c2
      clear hl1 hi1
      replace c2 := eq_true c2
      replace p1 := eq_true p1
      have hcall := fun (m : Nat) => HP.out (w.drewN m) A1 c1 (rdRow l0 x8) (Kd.C_below HI1.out (pw_below_drewN (Below.refl _ _) m)) HL1.out
      cases hq : p (rdRow l0 x8) with
      | true =>
        have HQ := Aside0.mk hq
        rw [hq] at hcall
        clear hq
        have HCALL := Aside0.mk hcall
        clear hcall
        go_wp2_with (go_at_fn g; refine (HCALL.out _).mono ?_; rintro e w' ⟨rfl, ⟨m2, rfl⟩⟩)
        go_ret
        have h8 : x8 = (x8.toNat : Int) := by have := HI.out.1; omega
        refine ⟨?_, by repeat (first | exact Drawn0.refl _ | apply Drawn0.step)⟩
        show Ending.returned (.int .i64 x8) = .returned (.int .i64 (fidx p l0))
        rw [fidx_hit p l0 [] x8.toNat (by have := HT.out; omega) HQ.out HI.out.2.2.2, ← h8]
      | false =>
        have HQ := Aside0.mk hq
        rw [hq] at hcall
        clear hq
        have HCALL := Aside0.mk hcall
        clear hcall
        go_wp2_with (go_at_fn g; refine (HCALL.out _).mono ?_; rintro e w' ⟨rfl, ⟨m2, rfl⟩⟩)
        go_roundg (l0.length - (x8.toNat + 1))
        case measure => have := HT.out; have := HI.out.1; have := HI.out.2.2.1; omega
        case rel =>
          refine ⟨x8 + 1, wrap_step (by have := HI.out.1; omega) p2, ⟨by have := HI.out.1; omega, by have := HT.out; omega, by have := HI.out.1; omega, fun j hj => ?_⟩, by repeat (first | exact Drawn0.refl _ | apply Drawn0.step)⟩
          by_cases ej : j = x8.toNat
          · subst ej; exact HQ.out
          · exact HI.out.2.2.2 j (by have := HI.out.1; omega)
    · have c2b0 : decide (x8 < (l0.length : Int)) = false := decide_eq_false c2
      have HT := Aside0.mk c2
      clear c2
      go_wp2
      go_ret
      refine ⟨?_, by repeat (first | exact Drawn0.refl _ | apply Drawn0.step)⟩
      show Ending.returned (.int .i64 (-1)) = .returned (.int .i64 (fidx p l0))
      rw [fidx_miss p l0 [] (fun j hj => HI.out.2.2.2 j (by have := HT.out; have := HI.out.2.1; omega))]
set_option maxHeartbeats 8000000 in
set_option maxRecDepth 100000 in
theorem contains_rows (g : Nat) (p : List Int → Bool) (eg : ∀ args w, (callFunc g args).run Try.prog w = .ok (.enter g args) w) (hp : PredRow g p) (A0 : Option Addr) (c0 : Nat) (l0 : List (List Int)) (w : World)
    (hr0 : Kd.C (Kd.slice 5 (Kd.int .u8)) w A0 l0.length l0) (hc0 : l0.length ≤ c0) :
    Calls Try.prog 66 #[.slice A0 l0.length c0, .func (.func g) #[] #[]] w fun e w' => e = .returned (.bool (l0.any p)) ∧ Drawn0 w w' := by
  have HCALL := Aside0.mk (idx_rows g p eg hp A0 c0 l0 w hr0 hc0)
  clear hp hr0 hc0
  rw [← fidx_ge p l0]
  generalize fidx p l0 = n at HCALL ⊢
  go_enter Try.func66, Try.ntmps66
  go_wp2_with (go_at_call 71; refine (HCALL.out).mono ?_; rintro e w' ⟨rfl, ⟨m1, rfl⟩⟩)
  go_ret
  exact ⟨by first | rfl | (simp; done), by repeat (first | exact Drawn0.refl _ | apply Drawn0.step)⟩

end Go.Proofs.Ytpbfeegfkiegeaa.M
