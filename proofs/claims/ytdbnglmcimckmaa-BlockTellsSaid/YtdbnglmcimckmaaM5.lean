/- Part of a claim: what some functions of the program compute, each with its contract; no condition of its own. Written by a program of this workplace (gen.py, over the print of the kit) and by hand. -/
import Derived.Test.YtdbnglmcimckmaaM0
import Derived.Test.YtdbnglmcimckmaaM1
import Derived.Test.YtdbnglmcimckmaaM2
namespace Go.Proofs.Ytdbnglmcimckmaa.M
open Go.RowKit Go.Proofs.YtdbnglmcimckmaaW.PrintWords Go.Proofs.YtdbnglmcimckmaaW.PrintLast Go.Proofs.YtdbnglmcimckmaaW.PrintMore
attribute [local go_sem] max2_int min2_int max_two min_two max_three min_three max_four min_four   -- for this text's walks alone
set_option linter.unusedVariables false
set_option linter.unusedSimpArgs false

/-! ### block_May: function 23 -/
def block_May.f (l0 : List (List Int)) : Option Bool := some (!(l0.any fun b => b.length != 512))
theorem block_May.pred : PredRow 30 (fun b => b.length != 512) := by
  intro W A c l hr hc
  have HM := hr.2.1
  clear hr hc
  cases hq : (l.length != 512) with
  | true =>
    have HQ := Aside0.mk (show l.length ≠ 512 by simpa using hq)
    have h2 : ((l.length : Int) != 512) = true := by
      have : l.length ≠ 512 := by simpa using hq
      exact bne_iff_ne.2 (by omega)
    have h3 : ((l.length : Int) == 512) = false := by simpa using h2
    clear hq
    go_enter Try.func30, Try.ntmps30
    go_wp2
    go_ret
    exact ⟨by first | rfl | (simp; done) | (simp [HQ.out]; done), by repeat (first | exact Drawn0.refl _ | apply Drawn0.step)⟩
  | false =>
    have HQ := Aside0.mk (show l.length = 512 by simpa using hq)
    have h2 : ((l.length : Int) != 512) = false := by
      have : l.length = 512 := by simpa using hq
      exact bne_eq_false_iff_eq.2 (by omega)
    have h3 : ((l.length : Int) == 512) = true := by simpa using h2
    clear hq
    go_enter Try.func30, Try.ntmps30
    go_wp2
    go_ret
    exact ⟨by first | rfl | (simp; done) | (simp [HQ.out]; done), by repeat (first | exact Drawn0.refl _ | apply Drawn0.step)⟩
set_option maxHeartbeats 8000000 in
set_option maxRecDepth 100000 in
theorem block_May.calls (A0 : Option Addr) (c0 : Nat) (l0 : List (List Int)) (r : Bool) (w : World) (hr0 : Kd.C (Kd.slice 5 (Kd.int .u8)) w A0 l0.length l0) (hc0 : l0.length ≤ c0) (h : block_May.f l0 = some r) :
    Calls Try.prog 23 #[.slice A0 l0.length c0] w fun e w' => e = .returned (.bool r) ∧ Drawn0 w w' := by
  have HCALL := Aside0.mk (contains_rows 30 _ (enters_of Try.func30 (by kernel_rfl) rfl) block_May.pred A0 c0 l0 w hr0 hc0)
  obtain rfl := Option.some.inj h
  clear hr0 hc0 h
  generalize (l0.any fun b => b.length != 512) = b at HCALL ⊢
  go_enter Try.func23, Try.ntmps23
  go_wp2_with (go_at_call 29; refine (HCALL.out).mono ?_; rintro e w' ⟨rfl, ⟨m1, rfl⟩⟩)
  go_ret
  exact ⟨by first | rfl | (simp; done), by repeat (first | exact Drawn0.refl _ | apply Drawn0.step)⟩

theorem rd_L1_at (l : List (List Int)) (i : Int) (h : i.toNat < l.length) : rd_L1 l i = l[i.toNat] := by
  simp [rd_L1, List.getD_eq_getElem?_getD, h]
theorem all_take_succ {α : Type} (p : α → Bool) (l : List α) (i : Nat) (h : i < l.length) : (l.take (i + 1)).all p = ((l.take i).all p && p l[i]) := by
  rw [List.take_add_one, List.getElem?_eq_getElem h, List.all_append]
  simp
theorem all_take_false {α : Type} (p : α → Bool) (l : List α) (i : Nat) (h : i < l.length) (hp : p l[i] = false) : l.all p = false := by
  cases hh : l.all p with
  | false => rfl
  | true =>
    rw [List.all_eq_true] at hh
    rw [hh _ (List.getElem_mem h)] at hp
    cases hp
theorem flat_512 (l : List (List Int)) (h : (l.all fun b => b.length == 512) = true) : l.flatten.length = 512 * l.length := by
  induction l with
  | nil => rfl
  | cons a l ih =>
    simp only [List.all_cons, Bool.and_eq_true, beq_iff_eq] at h
    rw [List.flatten_cons, List.length_append, List.length_cons, ih h.2, h.1]
    omega
theorem wrap_id {x : Int} (h0 : -9223372036854775808 ≤ x) (h1 : x ≤ 9223372036854775807) : wrap64 x = x := by unfold wrap64; omega
theorem wf_range {n : Int} (h : (Lit.int .i64 n).wf = true) : -9223372036854775808 ≤ n ∧ n ≤ 9223372036854775807 := by
  have h2 := h
  simp [Lit.wf, IntKind.min, IntKind.max, IntKind.signed, IntKind.bits] at h2
  omega
theorem wf_byte {n : Int} (h : (Lit.int .u8 n).wf = true) : 0 ≤ n ∧ n ≤ 255 := by
  have h2 := h
  simp [Lit.wf, IntKind.min, IntKind.max, IntKind.signed, IntKind.bits] at h2
  omega
theorem bytes_of_nums (xs : List Int) (h : ∀ x ∈ xs, 0 ≤ x ∧ x ≤ 255) : bytesOf (strOfNums xs) = xs := by
  simp only [bytesOf, strOfNums_data, List.map_map]
  conv => rhs; rw [← List.map_id xs]
  apply List.map_congr_left
  intro x hx
  have := h x hx
  simp only [Function.comp_apply, id_eq, UInt8.toNat_ofNat']
  omega

theorem block_May.tells (l : List (List Int)) : block_May.f l = some (l.all fun b => b.length == 512) := by
  unfold block_May.f
  congr 1
  induction l with
  | nil => rfl
  | cons a l ih =>
    simp only [List.any_cons, List.all_cons, Bool.not_or, ih]
    cases h : (a.length == 512) <;> simp_all [bne]

-- NOT PRINTED: function 39 (slices_Grow_byte_byte)

-- NOT PRINTED: function 35 (slices_Concat_byte_byte)

/-! ### block_joined: function 27 -/
/-- The text of bytes. Where they'd be too many for a slice the model's run ends: no answer. -/
def block_joined.f (l0 : List (List Int)) : Option ByteArray := if l0.flatten.length ≤ 140737488355328 then some (strOfNums l0.flatten) else none
set_option maxHeartbeats 8000000 in
set_option maxRecDepth 100000 in
theorem block_joined.calls (A0 : Option Addr) (c0 : Nat) (l0 : List (List Int)) (r : ByteArray) (w : World) (hr0 : Kd.C (Kd.slice 5 (Kd.int .u8)) w A0 l0.length l0) (hc0 : l0.length ≤ c0) (h : block_joined.f l0 = some r) :
    Calls Try.prog 27 #[.slice A0 l0.length c0] w fun e w' => e = .returned (.string r) ∧ Below w.heap.size w w' := by
  unfold block_joined.f at h
  by_cases hlen : l0.flatten.length ≤ 140737488355328
  · rw [if_pos hlen] at h
    obtain rfl := Option.some.inj h
    have HCALL := Aside0.mk (concat_bytes A0 c0 l0 w hr0 hc0 hlen)
    clear hr0 hc0 h hlen
    generalize l0.flatten = xs at HCALL ⊢
    go_enter Try.func27, Try.ntmps27
    go_wp2_with (go_at_call 35; refine (HCALL.out).mono ?_; rintro e w' ⟨v, rfl, hv, hb⟩; obtain ⟨A1, c1, he, hl, hC⟩ := Kd.R_reads hv; subst he; have kS := Kd.C_string (dst := 9) (c := c1) Try.underlying31 Try.underlying5 Try.underlying9 hC; have HB2 := Aside0.mk hb; clear hv hb hl hC)
    go_ret
    exact ⟨rfl, HB2.out⟩
  · rw [if_neg hlen] at h; cases h

end Go.Proofs.Ytdbnglmcimckmaa.M
