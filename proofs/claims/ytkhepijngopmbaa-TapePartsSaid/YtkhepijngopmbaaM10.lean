/- Part of a claim: what some functions of the program compute, each with its contract; no condition of its own. Written by a program of this workplace (gen.py, over the print of the kit) and by hand. -/
import Derived.Test.YtkhepijngopmbaaM0
import Derived.Test.YtkhepijngopmbaaM6
import Derived.Test.YtkhepijngopmbaaM8
import Derived.Test.YtkhepijngopmbaaM9
namespace Go.Proofs.Ytkhepijngopmbaa.M
open Go.RowKit Go.Proofs.YtkhepijngopmbaaW.PrintWords Go.Proofs.YtkhepijngopmbaaW.PrintLast Go.Proofs.YtkhepijngopmbaaW.PrintMore
attribute [local go_sem] max2_int min2_int max_two min_two max_three min_three max_four min_four   -- for this text's walks alone
set_option linter.unusedVariables false
set_option linter.unusedSimpArgs false

/-! ### tape_Write: function 12 -/
def tape_Write.f (a0_0 : Int) (l0_1 : List (List Int)) (a0_2 : Bool) (l1 : List Int) : Option (Int × List (List Int) × Bool × Int) :=
  (tape_Fill.f a0_0 l0_1 a0_2 [l1]).bind fun q => some (q.1, q.2.1, q.2.2.1, q.2.2.2.2)
theorem C_one {W : World} {A : Option Addr} {c : Nat} {l : List Int} (hr : Kd.C (Kd.int .u8) W A l.length l) (hc : l.length ≤ c) :
    Kd.C (Kd.slice 5 (Kd.int .u8)) (W.alloc (.cells #[.slice A l.length c] 25)) (some ⟨W.heap.size, 0, none⟩) [l].length [l] := by
  refine ⟨rfl, by show 1 ≤ 9223372036854775807; decide, fun _ => ⟨_, rfl, fun j p hj => ?_⟩⟩
  have hj0 : j = 0 := by have := (List.getElem?_eq_some_iff.1 hj).1; simp at this; exact this
  subst hj0
  have hp : l = p := by simpa using hj
  subst hp
  refine ⟨[.slice A l.length c], rfl, ⟨A, c, rfl, hc, Kd.C_alloc hr _⟩, fun i u hu => ?_⟩
  have hi : i = 0 := by have := (List.getElem?_eq_some_iff.1 hu).1; simp at this; exact this
  subst hi
  rw [show (0 * (Kd.slice 5 (Kd.int .u8)).sz + 0) = 0 by simp, add_plain, blk_cell (blk_new W (.cells #[.slice A l.length c] 25)) 0]
  simpa using hu
set_option maxHeartbeats 8000000 in
set_option maxRecDepth 100000 in
theorem tape_Write.calls (a0_0 : Int) (A0_1 : Option Addr) (c0_1 : Nat) (l0_1 : List (List Int)) (a0_2 : Bool) (A1 : Option Addr) (c1 : Nat) (l1 : List Int) (r1 : Int) (r2 : List (List Int)) (r3 : Bool) (r4 : Int) (w : World) (hr0_1 : Kd.C (Kd.slice 5 (Kd.int .u8)) w A0_1 l0_1.length l0_1) (hc0_1 : l0_1.length ≤ c0_1)
    (hr1 : Kd.C (Kd.int .u8) w A1 l1.length l1) (hc1 : l1.length ≤ c1) (h : tape_Write.f a0_0 l0_1 a0_2 l1 = some (r1, r2, r3, r4)) :
    Calls Try.prog 12 #[.agg #[.int .i64 a0_0, .slice A0_1 l0_1.length c0_1, .bool a0_2], .slice A1 l1.length c1] w fun e w' => ∃ v1_ : Value, e = .returned (.tuple #[.agg #[.int .i64 r1, v1_, .bool r3], .int .i64 r4]) ∧ Kd.S (Kd.slice 5 (Kd.int .u8)) 25 w' w.heap.size (fun _ => True) v1_ r2 ∧ Below w.heap.size w w' := by
  unfold tape_Write.f at h
  obtain ⟨⟨q1, q2, q3, q4, q5⟩, hF, h⟩ := Option.bind_eq_some_iff.1 h
  simp only [Option.some.injEq, Prod.mk.injEq] at h
  obtain ⟨rfl, rfl, rfl, rfl⟩ := h
  have hB0 := below_alloc (below_alloc (Below.refl w.heap.size w) (.cells #[.int .i64 a0_0, .slice A0_1 l0_1.length c0_1, .bool a0_2] 24)) (.cells #[.int .i64 0, .slice none 0 0, .bool false] 24)
  have bk1 := blk_alloc (blk_new w (.cells #[.int .i64 a0_0, .slice A0_1 l0_1.length c0_1, .bool a0_2] 24)) (.cells #[.int .i64 0, .slice none 0 0, .bool false] 24)
  have bk2 := blk_new (w.alloc (.cells #[.int .i64 a0_0, .slice A0_1 l0_1.length c0_1, .bool a0_2] 24)) (.cells #[.int .i64 0, .slice none 0 0, .bool false] 24)
  rw [show (w.alloc (.cells #[.int .i64 a0_0, .slice A0_1 l0_1.length c0_1, .bool a0_2] 24)).heap.size = w.heap.size + 1 by simp] at bk2
  have hC0 := Kd.C_alloc (Kd.C_alloc hr0_1 (.cells #[.int .i64 a0_0, .slice A0_1 l0_1.length c0_1, .bool a0_2] 24)) (.cells #[.int .i64 0, .slice none 0 0, .bool false] 24)
  have hC1 := C_one (Kd.C_alloc (Kd.C_alloc hr1 (.cells #[.int .i64 a0_0, .slice A0_1 l0_1.length c0_1, .bool a0_2] 24)) (.cells #[.int .i64 0, .slice none 0 0, .bool false] 24)) hc1
  have hws : ((w.alloc (.cells #[.int .i64 a0_0, .slice A0_1 l0_1.length c0_1, .bool a0_2] 24)).alloc (.cells #[.int .i64 0, .slice none 0 0, .bool false] 24)).heap.size = w.heap.size + 2 := by simp
  rw [show ((w.alloc (.cells #[.int .i64 a0_0, .slice A0_1 l0_1.length c0_1, .bool a0_2] 24)).alloc (.cells #[.int .i64 0, .slice none 0 0, .bool false] 24)).heap.size = w.heap.size + 1 + 1 by simp] at hC1
  have k10 := blk_cell bk1 0
  have k11 := blk_cell bk1 1
  have k12 := blk_cell bk1 2
  have HWS := Aside0.mk hws
  have HB0 := Aside0.mk (below_alloc hB0 (.cells #[.slice A1 l1.length c1] 25))
  have HC0 := Aside0.mk (Kd.C_alloc hC0 (.cells #[.slice A1 l1.length c1] 25))
  have HC1 := Aside0.mk hC1
  have HC01 := Aside0.mk hc0_1
  have HF := Aside0.mk hF
  have BK2 := Aside0.mk (blk_alloc bk2 (.cells #[.slice A1 l1.length c1] 25))
  clear hB0 hC0 hC1 hws bk1 bk2 hr0_1 hr1 hF
  go_enter Try.func12, Try.ntmps12
  go_wp2_with (first | (go_at_call 15; refine (tape_Fill.calls a0_0 A0_1 c0_1 l0_1 a0_2 _ 1 [l1] q1 q2 q3 q4 q5 _ HC0.out HC01.out HC1.out (Nat.le_refl _) HF.out).mono ?_; rintro e w3 ⟨v, rfl, hS, hb⟩; obtain ⟨A4, c4, he⟩ := Kd.S_slice hS; subst he; have HS4 := Aside0.mk hS; have HB3 := Aside0.mk (below_step HB0.out hb); have BK23 := Aside0.mk (blk_below BK2.out hb); clear hS hb k10 k11 k12) | ((with_reducible refine gate_dst (N := 6) rfl ?_); refine box_event ?hg (N := 6) ?hd (cs := #[.int .i64 0, .slice none 0 0, .bool false]) (t := 24) ?hr ?_; (case hd => rfl); (case hg => rfl); (case hr => first | (go_simp; done) | (go_simp; rfl)); intro g6 hg w6 hbox hb; have HG6 := Aside0.mk hg; have HB36 := Aside0.mk hb; have hn : g6 ≠ w.heap.size + 1 := (by have := blk_lt BK23.out; omega); have hn2 := Ne.symm hn; have hb2 := blk_below BK23.out hb; have BK26 := Aside0.mk hb2; have BK66 := Aside0.mk hbox; have k60 : w6.cell? ⟨g6, 0, none⟩ = some (.int .i64 0) := (blk_cell hbox 0).trans rfl; have k61 : w6.cell? ⟨g6, 1, none⟩ = some (.slice none 0 0) := (blk_cell hbox 1).trans rfl; have k62 : w6.cell? ⟨g6, 2, none⟩ = some (.bool false) := (blk_cell hbox 2).trans rfl; have k20 : w6.cell? ⟨w.heap.size + 1, 0, none⟩ = some (.int .i64 0) := (blk_cell hb2 0).trans rfl; have k21 : w6.cell? ⟨w.heap.size + 1, 1, none⟩ = some (.slice none 0 0) := (blk_cell hb2 1).trans rfl; have k22 : w6.cell? ⟨w.heap.size + 1, 2, none⟩ = some (.bool false) := (blk_cell hb2 2).trans rfl; have f60 := blk_frozen hbox 0; have f61 := blk_frozen hbox 1; have f62 := blk_frozen hbox 2; have f20 := blk_frozen hb2 0; have f21 := blk_frozen hb2 1; have f22 := blk_frozen hb2 2; clear hbox hb hb2 hg))
  have hk := three_put (u0 := .int .i64 q1) (u1 := .slice A4 q2.length c4) (u2 := .bool q3) (show (((w6.setCell ⟨g6, 0, none⟩ (.int .i64 q1)).setCell ⟨g6, 1, none⟩ (.slice A4 q2.length c4)).setCell ⟨g6, 2, none⟩ (.bool q3)).heap[w.heap.size + 1]? = _ from (three_heap hn2).trans BK26.out)
  refine bodyPost_ret (results_ct rfl _ _ (w.heap.size + 1) 24 _ (0, 0) _ rfl hk Try.underlying24 rfl (by kernel_rfl)) rfl ?_
  have hw6 : w.heap.size ≤ g6 := by have h1 := HB3.out.size; have h2 := HG6.out; omega
  refine ⟨_, rfl, S_past HS4.out (by have := HB0.out.size; omega) (fun k hk hlt => ?_), three_below (three_below (below_step HB3.out HB36.out) hw6) (by omega)⟩
  have hk2 : w.heap.size + 2 ≤ k := by
    have h1 := HWS.out
    have h2 : (((w.alloc (.cells #[.int .i64 a0_0, .slice A0_1 l0_1.length c0_1, .bool a0_2] 24)).alloc (.cells #[.int .i64 0, .slice none 0 0, .bool false] 24)).alloc (.cells #[.slice A1 l1.length c1] 25)).heap.size ≤ k := hk
    simp at h2
    omega
  rw [three_heap (by omega : k ≠ w.heap.size + 1), three_heap (by have := HG6.out; omega : k ≠ g6)]
  exact HB36.out.block k hlt

def writeT (a : Int) (l : List (List Int)) (b : Bool) (r : List Int) : Int × List (List Int) × Bool × Int :=
  if mayT a l = true then (if recMay r = true then (if b = true ∨ (l.length : Int) = a then (a, l, b, 8) else (a, l ++ [r], b, 0)) else (a, l, b, 1)) else (a, l, b, 1)
theorem sized_one {r : List Int} (h : r.length ≤ 1000000) : sized [r] := ⟨by simp, by simpa using h⟩
theorem sized_nil : sized [] := ⟨by simp, rfl⟩
theorem sized_snoc {l : List (List Int)} {r : List Int} (h : sized l) (hl : l.length < 1000) (hr : r.length ≤ 1000000) : sized (l ++ [r]) :=
  ⟨by rw [List.length_append, List.length_singleton]; omega, by rw [List.all_append, h.2]; simpa using hr⟩
theorem tape_Write.tells (a : Int) (l : List (List Int)) (b : Bool) (r : List Int) (hs : sized l) (hr : r.length ≤ 1000000) : tape_Write.f a l b r = some (writeT a l b r) := by
  unfold tape_Write.f tape_Fill.f fillT writeT
  rw [if_pos ⟨hs, sized_one hr⟩, Option.bind_some]
  by_cases hm : mayT a l = true
  · rw [if_pos hm, if_pos hm]
    simp only [fillN]
    by_cases h1 : recMay r = true
    · rw [if_pos h1, if_pos h1]
      by_cases h2 : b = true ∨ (l.length : Int) = a
      · rw [if_pos h2, if_pos h2]
        simp
      · rw [if_neg h2, if_neg h2]
        simp
    · rw [if_neg h1, if_neg h1]
      simp
  · rw [if_neg hm, if_neg hm]

-- NOT PRINTED: function 29 (slices_EqualFunc_byte_byte_byte_byte)

end Go.Proofs.Ytkhepijngopmbaa.M
