/- Part of a claim: what some functions of the program compute, each with its contract; no condition of its own. Written by a program of this workplace (gen.py, over the print of the kit) and by hand. -/
import Derived.Test.YtkhepijngopmbaaM0
import Derived.Test.YtkhepijngopmbaaM7
namespace Go.Proofs.Ytkhepijngopmbaa.M
open Go.RowKit Go.Proofs.YtkhepijngopmbaaW.PrintWords Go.Proofs.YtkhepijngopmbaaW.PrintLast Go.Proofs.YtkhepijngopmbaaW.PrintMore
attribute [local go_sem] max2_int min2_int max_two min_two max_three min_three max_four min_four   -- for this text's walks alone
set_option linter.unusedVariables false
set_option linter.unusedSimpArgs false

/-! ### record_May: function 21 -/
def record_May.f (l0 : List Int) : Option (Bool) := if ((l0.length : Int) % 512) = 0 then ((record_factor.f (wrap64 ((l0.length : Int) / 512))).bind fun t101 => (some t101)) else (some false)
set_option maxHeartbeats 8000000 in
set_option maxRecDepth 100000 in
theorem record_May.calls (A0 : Option Addr) (c0 : Nat) (l0 : List Int) (r : Bool) (w : World) (hr0 : Kd.C (Kd.int .u8) w A0 l0.length l0) (hc0 : l0.length ≤ c0) (h : record_May.f l0 = some r) :
    Calls Try.prog 21 #[.slice A0 l0.length c0] w fun e w' => e = .returned (.bool r) ∧ Drawn0 w w' := by
  have HR0 := Aside0.mk hr0
  have HC0 := Aside0.mk hc0
  clear hr0 hc0
  have H : (if ((l0.length : Int) % 512) = 0 then ((record_factor.f (wrap64 ((l0.length : Int) / 512))).bind fun t101 => (some t101)) else (some false)) = some r := h
  clear h
  by_cases c2 : ((l0.length : Int) % 512) = 0
  · rw [if_pos c2] at H
    have c2b0 : (((l0.length : Int) % 512) == 0) = true := beq_iff_eq.mpr c2
    have c2b1 : (((l0.length : Int) % 512) != 0) = false := bne_eq_false_iff_eq.mpr c2
    clear c2
    replace H := Option.bind_eq_some_iff.mp H
    obtain ⟨t101, A30, H⟩ := H
    replace H : (some t101) = some r := H
    have A3 := Aside0.mk A30
    clear A30
    obtain rfl := Option.some.inj H
    go_enter Try.func21, Try.ntmps21
    go_wp2_with (first | (go_at_call 27; (with_reducible refine (record_factor.calls (wrap64 ((l0.length : Int) / 512)) t101 _ A3.out).mono ?_); rintro e w' ⟨rfl, ⟨nd, rfl⟩⟩))
    go_ret
    exact ⟨by first | rfl | (simp; done) | (simp [*]; done), by repeat (first | exact Drawn0.refl _ | apply Drawn0.step)⟩
  · rw [if_neg c2] at H
    have c2b0 : (((l0.length : Int) % 512) == 0) = false := beq_eq_false_iff_ne.mpr c2
    have c2b1 : (((l0.length : Int) % 512) != 0) = true := bne_iff_ne.mpr c2
    obtain rfl := Option.some.inj H
    go_enter Try.func21, Try.ntmps21
    go_wp2
    go_ret
    exact ⟨by first | rfl | (simp; done) | (simp [*]; done), by repeat (first | exact Drawn0.refl _ | apply Drawn0.step)⟩

theorem rd_L1_at (l : List (List Int)) (i : Int) (h : i.toNat < l.length) : rd_L1 l i = l[i.toNat] := by
  simp [rd_L1, List.getD_eq_getElem?_getD, h]
theorem all_take_succ {α : Type} (p : α → Bool) (l : List α) (i : Nat) (h : i < l.length) : (l.take (i + 1)).all p = ((l.take i).all p && p l[i]) := by
  rw [List.take_add_one, List.getElem?_eq_getElem h, List.all_append]
  simp
theorem all_take_false {α : Type} (p : α → Bool) (l : List α) (i : Nat) (h : i < l.length) (hp : p l[i] = false) : l.all p = false := by
  cases hh : l.all p with
  | false => rfl
  | true =>
    rw [List.all_eq_true] at hh
    rw [hh _ (List.getElem_mem h)] at hp
    cases hp
theorem flat_512 (l : List (List Int)) (h : (l.all fun b => b.length == 512) = true) : l.flatten.length = 512 * l.length := by
  induction l with
  | nil => rfl
  | cons a l ih =>
    simp only [List.all_cons, Bool.and_eq_true, beq_iff_eq] at h
    rw [List.flatten_cons, List.length_append, List.length_cons, ih h.2, h.1]
    omega
theorem wrap_id {x : Int} (h0 : -9223372036854775808 ≤ x) (h1 : x ≤ 9223372036854775807) : wrap64 x = x := by unfold wrap64; omega
theorem wf_range {n : Int} (h : (Lit.int .i64 n).wf = true) : -9223372036854775808 ≤ n ∧ n ≤ 9223372036854775807 := by
  have h2 := h
  simp [Lit.wf, IntKind.min, IntKind.max, IntKind.signed, IntKind.bits] at h2
  omega
theorem wf_byte {n : Int} (h : (Lit.int .u8 n).wf = true) : 0 ≤ n ∧ n ≤ 255 := by
  have h2 := h
  simp [Lit.wf, IntKind.min, IntKind.max, IntKind.signed, IntKind.bits] at h2
  omega
theorem bytes_of_nums (xs : List Int) (h : ∀ x ∈ xs, 0 ≤ x ∧ x ≤ 255) : bytesOf (strOfNums xs) = xs := by
  simp only [bytesOf, strOfNums_data, List.map_map]
  conv => rhs; rw [← List.map_id xs]
  apply List.map_congr_left
  intro x hx
  have := h x hx
  simp only [Function.comp_apply, id_eq, UInt8.toNat_ofNat']
  omega

/-- May bytes be a record? -/
def recMay (r : List Int) : Bool := decide (r.length % 512 = 0) && (decide (1 ≤ r.length / 512) && decide (r.length / 512 ≤ 20))
theorem recMay_f (r : List Int) (hr : r.length ≤ 9223372036854775807) : record_May.f r = some (recMay r) := by
  unfold record_May.f record_factor.f recMay
  by_cases h1 : r.length % 512 = 0
  · rw [if_pos (by omega), show wrap64 ((r.length : Int) / 512) = ((r.length / 512 : Nat) : Int) by unfold wrap64; omega]
    by_cases h2 : 1 ≤ r.length / 512
    · rw [if_pos (by omega), Option.bind_some, decide_eq_true h1, decide_eq_true h2]
      by_cases h3 : r.length / 512 ≤ 20
      · rw [decide_eq_true h3, decide_eq_true (by omega)]; rfl
      · rw [decide_eq_false h3, decide_eq_false (by omega)]; rfl
    · rw [if_neg (by omega), Option.bind_some, decide_eq_true h1, decide_eq_false h2]; rfl
  · rw [if_neg (by omega), decide_eq_false h1]; rfl

-- NOT PRINTED: function 26 (tape_reel_add)

end Go.Proofs.Ytkhepijngopmbaa.M
