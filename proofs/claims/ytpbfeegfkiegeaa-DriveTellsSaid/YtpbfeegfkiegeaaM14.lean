/- Part of a claim: what some functions of the program compute, each with its contract; no condition of its own. Written by a program of this workplace (gen.py, over the print of the kit) and by hand. -/
import Derived.Test.YtpbfeegfkiegeaaM0
import Derived.Test.YtpbfeegfkiegeaaM4
import Derived.Test.YtpbfeegfkiegeaaM5
import Derived.Test.YtpbfeegfkiegeaaM7
import Derived.Test.YtpbfeegfkiegeaaM8
import Derived.Test.YtpbfeegfkiegeaaM9
import Derived.Test.YtpbfeegfkiegeaaM10
import Derived.Test.YtpbfeegfkiegeaaM11
import Derived.Test.YtpbfeegfkiegeaaM12
namespace Go.Proofs.Ytpbfeegfkiegeaa.M
open Go.RowKit Go.Proofs.YtpbfeegfkiegeaaW.PrintWords Go.Proofs.YtpbfeegfkiegeaaW.PrintLast Go.Proofs.YtpbfeegfkiegeaaW.PrintMore
attribute [local go_sem] max2_int min2_int max_two min_two max_three min_three max_four min_four   -- for this text's walks alone
set_option linter.unusedVariables false
set_option linter.unusedSimpArgs false

theorem rd_L1_at (l : List (List Int)) (i : Int) (h : i.toNat < l.length) : rd_L1 l i = l[i.toNat] := by
  simp [rd_L1, List.getD_eq_getElem?_getD, h]
theorem wrap_id {x : Int} (h0 : -9223372036854775808 ≤ x) (h1 : x ≤ 9223372036854775807) : wrap64 x = x := by unfold wrap64; omega
theorem wf_byte {n : Int} (h : (Lit.int .u8 n).wf = true) : 0 ≤ n ∧ n ≤ 255 := by
  have h2 := h
  simp [Lit.wf, IntKind.min, IntKind.max, IntKind.signed, IntKind.bits] at h2
  omega
theorem bytes_of_nums (xs : List Int) (h : ∀ x ∈ xs, 0 ≤ x ∧ x ≤ 255) : bytesOf (strOfNums xs) = xs := by
  simp only [bytesOf, strOfNums_data, List.map_map]
  conv => rhs; rw [← List.map_id xs]
  apply List.map_congr_left
  intro x hx
  have := h x hx
  simp only [Function.comp_apply, id_eq, UInt8.toNat_ofNat']
  omega

-- NOT PRINTED: function 70 (tape_reel_add)

def writeT (a : Int) (l : List (List Int)) (b : Bool) (r : List Int) : Int × List (List Int) × Bool × Int :=
  if mayT a l = true then (if recMay r = true then (if b = true ∨ (l.length : Int) = a then (a, l, b, 8) else (a, l ++ [r], b, 0)) else (a, l, b, 1)) else (a, l, b, 1)
theorem sized_one {r : List Int} (h : r.length ≤ 1000000) : sized [r] := ⟨by simp, by simpa using h⟩
theorem tape_Write.tells (a : Int) (l : List (List Int)) (b : Bool) (r : List Int) (hs : sized l) (hr : r.length ≤ 1000000) : tape_Write.f a l b r = some (writeT a l b r) := by
  unfold tape_Write.f tape_Fill.f fillT writeT
  rw [if_pos ⟨hs, sized_one hr⟩, Option.bind_some]
  by_cases hm : mayT a l = true
  · rw [if_pos hm, if_pos hm]
    simp only [fillN]
    by_cases h1 : recMay r = true
    · rw [if_pos h1, if_pos h1]
      by_cases h2 : b = true ∨ (l.length : Int) = a
      · rw [if_pos h2, if_pos h2]
        simp
      · rw [if_neg h2, if_neg h2]
        simp
    · rw [if_neg h1, if_neg h1]
      simp
  · rw [if_neg hm, if_neg hm]

-- NOT PRINTED: function 38 (drive_Write_1)

def closeT (a : Int) (l : List (List Int)) (b : Bool) : Int × List (List Int) × Bool × Int :=
  if mayT a l = true then (if b = true then (a, l, b, 8) else (a, l, true, 0)) else (a, l, b, 1)
theorem tape_Close.tells (a : Int) (l : List (List Int)) (b : Bool) (hs : sized l) : tape_Close.f a l b = some (closeT a l b) := by
  unfold tape_Close.f tape_May.f closeT
  rw [tape_own.tells a l b hs, Option.bind_some, Option.bind_some]
  by_cases hm : mayT a l = true
  · rw [if_pos hm, if_pos hm]
    by_cases hb : b = true
    · rw [if_pos hb, if_pos hb]
    · rw [if_neg hb, if_neg hb]
  · rw [if_neg hm, if_neg hm]

theorem mayD_parts {l : List S41} {i p : Int} (h : mayD l i p = true) : l.length ≤ 12 ∧ l.all mayR = true ∧ -1 ≤ i ∧ i < (l.length : Int) ∧ 0 ≤ p ∧ p ≤ mostD l i := by
  unfold mayD at h
  simp only [Bool.and_eq_true, decide_eq_true_eq] at h
  exact ⟨by omega, h.2.1, h.2.2.1, h.2.2.2.1, h.2.2.2.2.1, h.2.2.2.2.2⟩
theorem mayD_in {l : List S41} {i p : Int} (h : mayD l i p = true) (hi : i ≠ -1) : 0 ≤ i ∧ i < (l.length : Int) ∧ 0 ≤ p ∧ p ≤ ((rd_T41 l i).f1.length : Int) := by
  obtain ⟨_, _, h1, h2, h3, h4⟩ := mayD_parts h
  unfold mostD at h4
  rw [if_neg hi] at h4
  exact ⟨by omega, h2, h3, h4⟩
theorem ownable_at {l : List S41} {i : Int} (hs : ownable l) (h0 : 0 ≤ i) (h1 : i < (l.length : Int)) : sized (rd_T41 l i).f1 := by
  have h2 := List.all_eq_true.1 hs.2 _ (List.mem_of_getElem? (rd_at h0 h1))
  rw [Bool.and_eq_true] at h2
  exact ⟨of_decide_eq_true h2.1, h2.2⟩
theorem cutT_sized (a : Int) (l : List (List Int)) (b : Bool) (n : Int) (hs : sized l) : sized (cutT a l b n).2.1 := by
  unfold cutT
  split
  · split
    · exact hs
    · exact ⟨by have := hs.1; simp only [List.length_take]; omega, List.all_eq_true.2 (fun x hx => List.all_eq_true.1 hs.2 x (List.mem_of_mem_take hx))⟩
  · exact hs
def markS (x : S41) (p : Int) : S41 :=
  ⟨(closeT (cutT x.f0 x.f1 x.f2 p).1 (cutT x.f0 x.f1 x.f2 p).2.1 (cutT x.f0 x.f1 x.f2 p).2.2.1).1, (closeT (cutT x.f0 x.f1 x.f2 p).1 (cutT x.f0 x.f1 x.f2 p).2.1 (cutT x.f0 x.f1 x.f2 p).2.2.1).2.1, (closeT (cutT x.f0 x.f1 x.f2 p).1 (cutT x.f0 x.f1 x.f2 p).2.1 (cutT x.f0 x.f1 x.f2 p).2.2.1).2.2.1⟩
def markD (l : List S41) (i p : Int) : List S41 × Int × Int × Int := if mayD l i p = true then (if i = -1 then (l, i, p, 9) else (l.set i.toNat (markS (rd_T41 l i) p), i, p, 0)) else (l, i, p, 1)
def drive_Mark.f (l0_0 : List S41) (a0_1 : Int) (a0_2 : Int) : Option (List S41 × Int × Int × Int) := if ownable l0_0 then some (markD l0_0 a0_1 a0_2) else none
set_option maxHeartbeats 8000000 in
set_option maxRecDepth 100000 in
theorem drive_Mark.calls (A0_0 : Option Addr) (c0_0 : Nat) (l0_0 : List S41) (a0_1 : Int) (a0_2 : Int) (r1 : List S41) (r2 : Int) (r3 : Int) (r4 : Int) (w : World) (hr0_0 : Kd.C k41 w A0_0 l0_0.length l0_0) (hc0_0 : l0_0.length ≤ c0_0) (h : drive_Mark.f l0_0 a0_1 a0_2 = some (r1, r2, r3, r4)) :
    Calls Try.prog 19 #[.agg #[.slice A0_0 l0_0.length c0_0, .int .i64 a0_1, .int .i64 a0_2]] w fun e w' => ∃ v0_ : Value, e = .returned (.tuple #[.agg #[v0_, .int .i64 r2, .int .i64 r3], .int .i64 r4]) ∧ Kd.V k41 41 w' w.heap.size (fun k_ => (w.heap.size ≤ k_)) v0_ r1 ∧ Below w.heap.size w w' := by
  unfold drive_Mark.f at h
  by_cases hs : ownable l0_0
  case neg => rw [if_neg hs] at h; cases h
  rw [if_pos hs, Option.some.injEq] at h
  have hB0 := below_alloc (below_alloc (Below.refl w.heap.size w) (.cells #[.slice A0_0 l0_0.length c0_0, .int .i64 a0_1, .int .i64 a0_2] 24)) (.cells #[.slice none 0 0, .int .i64 0, .int .i64 0] 24)
  have bk1 := blk_alloc (blk_new w (.cells #[.slice A0_0 l0_0.length c0_0, .int .i64 a0_1, .int .i64 a0_2] 24)) (.cells #[.slice none 0 0, .int .i64 0, .int .i64 0] 24)
  have bk2 := blk_new (w.alloc (.cells #[.slice A0_0 l0_0.length c0_0, .int .i64 a0_1, .int .i64 a0_2] 24)) (.cells #[.slice none 0 0, .int .i64 0, .int .i64 0] 24)
  rw [show (w.alloc (.cells #[.slice A0_0 l0_0.length c0_0, .int .i64 a0_1, .int .i64 a0_2] 24)).heap.size = w.heap.size + 1 by simp] at bk2
  have hws : ((w.alloc (.cells #[.slice A0_0 l0_0.length c0_0, .int .i64 a0_1, .int .i64 a0_2] 24)).alloc (.cells #[.slice none 0 0, .int .i64 0, .int .i64 0] 24)).heap.size = w.heap.size + 2 := by simp
  have hF0 := Kd.F_alloc (Kd.F_alloc (Kd.C_F (Kd.heap_iso _ (Kd.heap_pair (Kd.heap_int _) (Kd.heap_pair (Kd.heap_slice _ (Kd.heap_slice _ (Kd.heap_int _))) Kd.heap_bool))) hr0_0) (.cells #[.slice A0_0 l0_0.length c0_0, .int .i64 a0_1, .int .i64 a0_2] 24)) (.cells #[.slice none 0 0, .int .i64 0, .int .i64 0] 24)
  have hdone : Calls Try.prog 34 #[.agg #[.slice A0_0 l0_0.length c0_0, .int .i64 a0_1, .int .i64 a0_2], .func (.func 45) #[] #[]] ((w.alloc (.cells #[.slice A0_0 l0_0.length c0_0, .int .i64 a0_1, .int .i64 a0_2] 24)).alloc (.cells #[.slice none 0 0, .int .i64 0, .int .i64 0] 24)) fun r w' => ∃ v0 : Value, r = .returned (.tuple #[.agg #[v0, .int .i64 r2, .int .i64 r3], .int .i64 r4]) ∧
      Kd.V k41 41 w' 0 (fun k => w.heap.size + 2 ≤ k) v0 r1 ∧ Below (w.heap.size + 2) ((w.alloc (.cells #[.slice A0_0 l0_0.length c0_0, .int .i64 a0_1, .int .i64 a0_2] 24)).alloc (.cells #[.slice none 0 0, .int .i64 0, .int .i64 0] 24)) w' := by
    rw [← hws]
    unfold markD at h
    by_cases hm : mayD l0_0 a0_1 a0_2 = true
    · rw [if_pos hm] at h
      by_cases hi : a0_1 = -1
      · rw [if_pos hi] at h
        simp only [Prod.mk.injEq] at h
        obtain ⟨rfl, rfl, rfl, rfl⟩ := h
        refine (done_not _ A0_0 c0_0 l0_0 a0_1 a0_2 _ (Kd.F_now hF0) hc0_0 hs (fun _ => hi)).mono ?_
        rw [if_pos hm]
        exact fun r w' hq => hq
      · rw [if_neg hi] at h
        have hb1 := (mayD_in hm hi).1
        have hb2 := (mayD_in hm hi).2.1
        simp only [Prod.mk.injEq] at h
        obtain ⟨rfl, rfl, rfl, rfl⟩ := h
        refine (done_way _ #[] (enters_of Try.func45 (by kernel_rfl) rfl) A0_0 c0_0 l0_0 a0_1 a0_2 _ (fun _ => False) (fun _ h9 => h9.elim) (Kd.F_mono hF0 (fun k hk => ⟨by rw [hws]; omega, fun h9 => h9⟩)) hc0_0 hm hi hs 0 (l0_0.set a0_1.toNat (markS (rd_T41 l0_0 a0_1) a0_2)) a0_1 a0_2 (fun _ => True) (fun _ _ _ _ => trivial) (fun _ _ => way_mark _ _ _ _ _ (by have := hs.1; omega) hb1 hb2 (markS (rd_T41 l0_0 a0_1) a0_2) _ _ _ _ (closeT (cutT (rd_T41 l0_0 a0_1).f0 (rd_T41 l0_0 a0_1).f1 (rd_T41 l0_0 a0_1).f2 a0_2).1 (cutT (rd_T41 l0_0 a0_1).f0 (rd_T41 l0_0 a0_1).f1 (rd_T41 l0_0 a0_1).f2 a0_2).2.1 (cutT (rd_T41 l0_0 a0_1).f0 (rd_T41 l0_0 a0_1).f1 (rd_T41 l0_0 a0_1).f2 a0_2).2.2.1).2.2.2 (by unfold tape_Cut.f; rw [if_pos (ownable_at hs hb1 hb2)]) (tape_Close.tells _ _ _ (cutT_sized _ _ _ _ (ownable_at hs hb1 hb2))))).mono ?_
        rintro r w' ⟨v0, rfl, hV, hX, _⟩
        exact ⟨v0, rfl, hV, hX.to⟩
    · rw [if_neg hm] at h
      simp only [Prod.mk.injEq] at h
      obtain ⟨rfl, rfl, rfl, rfl⟩ := h
      refine (done_not _ A0_0 c0_0 l0_0 a0_1 a0_2 _ (Kd.F_now hF0) hc0_0 hs (fun hx => absurd hx hm)).mono ?_
      rw [if_neg hm]
      exact fun r w' hq => hq
  have k10 := blk_cell bk1 0
  have k11 := blk_cell bk1 1
  have k12 := blk_cell bk1 2
  have HD := Aside0.mk hdone
  have HB0 := Aside0.mk hB0
  have BK2 := Aside0.mk bk2
  have HWS := Aside0.mk hws
  clear hF0 hB0 bk1 bk2 hs hr0_0 hc0_0 h hws hdone
  go_enter Try.func19, Try.ntmps19
  go_wp2_with (go_at_call 34; (refine (HD.out).mono ?_; rintro e_ w4 ⟨v0, rfl, hV, hb⟩; obtain ⟨A4, c4, he4⟩ := Kd.V_slice hV; subst he4; have HV4 := Aside0.mk hV; have HB4 := Aside0.mk hb; have b24 := (hb.block (w.heap.size + 1) (by omega)).trans BK2.out; have BK24 := Aside0.mk b24; have m20 := (blk_cell b24 0).trans rfl; have m21 := (blk_cell b24 1).trans rfl; have m22 := (blk_cell b24 2).trans rfl; have g20 := blk_frozen b24 0; have g21 := blk_frozen b24 1; have g22 := blk_frozen b24 2; clear hV hb b24))
  have hb3 := three_put (u0 := .slice A4 r1.length c4) (u1 := .int .i64 r2) (u2 := .int .i64 r3) BK24.out
  refine bodyPost_ret (results_ct rfl _ _ (w.heap.size + 1) 24 _ (0, 0) _ rfl hb3 Try.underlying24 rfl (by kernel_rfl)) rfl ?_
  exact ⟨_, rfl, Kd.V_mono (Kd.V_step HV4.out (fun k hk _ => three_heap (by omega))) (fun k hk => by omega), three_below (HB0.out.trans (HB4.out.mono (by omega))) (by omega)⟩

def putT (x : S41) (p : Int) (r : List Int) : Int × List (List Int) × Bool × Int := writeT (cutT x.f0 x.f1 x.f2 p).1 (cutT x.f0 x.f1 x.f2 p).2.1 (cutT x.f0 x.f1 x.f2 p).2.2.1 r
def writeD (l : List S41) (i p : Int) (r : List Int) : List S41 × Int × Int × Int :=
  if mayD l i p = true then (if i = -1 then (l, i, p, 9) else if recMay r = true then (if (putT (rd_T41 l i) p r).2.2.2 = 0 then (l.set i.toNat ⟨(putT (rd_T41 l i) p r).1, (putT (rd_T41 l i) p r).2.1, (putT (rd_T41 l i) p r).2.2.1⟩, i, p + 1, 0) else (l, i, p, (putT (rd_T41 l i) p r).2.2.2)) else (l, i, p, 1)) else (l, i, p, 1)
def drive_Write.f (l0_0 : List S41) (a0_1 : Int) (a0_2 : Int) (l1 : List Int) : Option (List S41 × Int × Int × Int) := if ownable l0_0 ∧ l1.length ≤ 1000000 then some (writeD l0_0 a0_1 a0_2 l1) else none
set_option maxHeartbeats 8000000 in
set_option maxRecDepth 100000 in
theorem drive_Write.calls (A0_0 : Option Addr) (c0_0 : Nat) (l0_0 : List S41) (a0_1 : Int) (a0_2 : Int) (A1 : Option Addr) (c1 : Nat) (l1 : List Int) (r1 : List S41) (r2 : Int) (r3 : Int) (r4 : Int) (w : World) (hr0_0 : Kd.C k41 w A0_0 l0_0.length l0_0) (hc0_0 : l0_0.length ≤ c0_0) (hr1 : Kd.C (Kd.int .u8) w A1 l1.length l1) (hc1 : l1.length ≤ c1) (h : drive_Write.f l0_0 a0_1 a0_2 l1 = some (r1, r2, r3, r4)) :
    Calls Try.prog 17 #[.agg #[.slice A0_0 l0_0.length c0_0, .int .i64 a0_1, .int .i64 a0_2], .slice A1 l1.length c1] w fun e w' => ∃ v0_ : Value, e = .returned (.tuple #[.agg #[v0_, .int .i64 r2, .int .i64 r3], .int .i64 r4]) ∧ Kd.V k41 41 w' w.heap.size (fun k_ => (w.heap.size ≤ k_)) v0_ r1 ∧ Below w.heap.size w w' := by
  unfold drive_Write.f at h
  by_cases hs0 : ownable l0_0 ∧ l1.length ≤ 1000000
  case neg => rw [if_neg hs0] at h; cases h
  rw [if_pos hs0, Option.some.injEq] at h
  obtain ⟨hs, hr1l⟩ := hs0
  obtain ⟨O0, hO0⟩ : ∃ O, O = Obj.cells #[.slice A0_0 l0_0.length c0_0, .int .i64 a0_1, .int .i64 a0_2] 24 (0, 0) := ⟨_, rfl⟩
  obtain ⟨O1, hO1⟩ : ∃ O, O = Obj.cells #[.slice A1 l1.length c1] 25 (0, 0) := ⟨_, rfl⟩
  obtain ⟨O2, hO2⟩ : ∃ O, O = Obj.cells #[.slice none 0 0, .int .i64 0, .int .i64 0] 24 (0, 0) := ⟨_, rfl⟩
  have hB0 := below_alloc (below_alloc (below_alloc (Below.refl w.heap.size w) O0) O1) O2
  have bk1 : (((w.alloc O0).alloc O1).alloc O2).heap[w.heap.size]? = some O0 := by
    rw [Below.heap_alloc _ _ _ (by simp <;> omega), Below.heap_alloc _ _ _ (by simp <;> omega)]; exact World.alloc_heap_new w O0
  have bk2 : (((w.alloc O0).alloc O1).alloc O2).heap[w.heap.size + 1]? = some O1 := by
    rw [Below.heap_alloc _ _ _ (by simp <;> omega)]; have := World.alloc_heap_new (w.alloc O0) O1; simpa using this
  have bk3 : (((w.alloc O0).alloc O1).alloc O2).heap[w.heap.size + 2]? = some O2 := by
    have := World.alloc_heap_new ((w.alloc O0).alloc O1) O2; simpa using this
  have hws : (((w.alloc O0).alloc O1).alloc O2).heap.size = w.heap.size + 3 := by simp
  have hF0 := Kd.F_alloc (Kd.F_alloc (Kd.F_alloc (Kd.C_F (Kd.heap_iso _ (Kd.heap_pair (Kd.heap_int _) (Kd.heap_pair (Kd.heap_slice _ (Kd.heap_slice _ (Kd.heap_int _))) Kd.heap_bool))) hr0_0) O0) O1) O2
  have hC1 := Kd.C_alloc (Kd.C_alloc (Kd.C_alloc hr1 O0) O1) O2
  replace bk1 : (((w.alloc O0).alloc O1).alloc O2).heap[w.heap.size]? = some (.cells #[.slice A0_0 l0_0.length c0_0, .int .i64 a0_1, .int .i64 a0_2] 24 (0, 0)) := by rw [bk1, hO0]
  replace bk2 : (((w.alloc O0).alloc O1).alloc O2).heap[w.heap.size + 1]? = some (.cells #[.slice A1 l1.length c1] 25 (0, 0)) := by rw [bk2, hO1]
  replace bk3 : (((w.alloc O0).alloc O1).alloc O2).heap[w.heap.size + 2]? = some (.cells #[.slice none 0 0, .int .i64 0, .int .i64 0] 24 (0, 0)) := by rw [bk3, hO2]
  have hdone : Calls Try.prog 34 #[.agg #[.slice A0_0 l0_0.length c0_0, .int .i64 a0_1, .int .i64 a0_2], .func (.func 38) #[] #[.pointer (some ⟨w.heap.size + 1, 0, none⟩)]] (((w.alloc O0).alloc O1).alloc O2) fun r w' => ∃ v0 : Value, r = .returned (.tuple #[.agg #[v0, .int .i64 r2, .int .i64 r3], .int .i64 r4]) ∧
      Kd.V k41 41 w' 0 (fun k => w.heap.size + 3 ≤ k) v0 r1 ∧ Below (w.heap.size + 3) (((w.alloc O0).alloc O1).alloc O2) w' := by
    rw [← hws]
    unfold writeD at h
    by_cases hm : mayD l0_0 a0_1 a0_2 = true
    · rw [if_pos hm] at h
      by_cases hi : a0_1 = -1
      · rw [if_pos hi] at h
        simp only [Prod.mk.injEq] at h
        obtain ⟨rfl, rfl, rfl, rfl⟩ := h
        refine (done_not _ A0_0 c0_0 l0_0 a0_1 a0_2 _ (Kd.F_now hF0) hc0_0 hs (fun _ => hi)).mono ?_
        rw [if_pos hm]
        exact fun r w' hq => hq
      · rw [if_neg hi] at h
        obtain ⟨hb1, hb2, hb3, hb4⟩ := mayD_in hm hi
        have hsx := ownable_at hs hb1 hb2
        by_cases hrm : recMay l1 = true
        · rw [if_pos hrm] at h
          have hcut : tape_Cut.f (rd_T41 l0_0 a0_1).f0 (rd_T41 l0_0 a0_1).f1 (rd_T41 l0_0 a0_1).f2 a0_2 = some (cutT (rd_T41 l0_0 a0_1).f0 (rd_T41 l0_0 a0_1).f1 (rd_T41 l0_0 a0_1).f2 a0_2) := by unfold tape_Cut.f; rw [if_pos hsx]
          have hput : tape_Write.f (cutT (rd_T41 l0_0 a0_1).f0 (rd_T41 l0_0 a0_1).f1 (rd_T41 l0_0 a0_1).f2 a0_2).1 (cutT (rd_T41 l0_0 a0_1).f0 (rd_T41 l0_0 a0_1).f1 (rd_T41 l0_0 a0_1).f2 a0_2).2.1 (cutT (rd_T41 l0_0 a0_1).f0 (rd_T41 l0_0 a0_1).f1 (rd_T41 l0_0 a0_1).f2 a0_2).2.2.1 l1 = some (putT (rd_T41 l0_0 a0_1) a0_2 l1) := tape_Write.tells _ _ _ _ (cutT_sized _ _ _ _ hsx) hr1l
          have hway := fun (wf0 : Nat) => (done_way 38 #[.pointer (some ⟨w.heap.size + 1, 0, none⟩)] (enters_of Try.func38 (by kernel_rfl) rfl) A0_0 c0_0 l0_0 a0_1 a0_2 (((w.alloc O0).alloc O1).alloc O2) (fun _ => False) (fun _ h9 => h9.elim) (Kd.F_mono hF0 (fun k hk => ⟨by rw [hws]; omega, fun h9 => h9⟩)) hc0_0 hm hi hs (putT (rd_T41 l0_0 a0_1) a0_2 l1).2.2.2
            (l0_0.set a0_1.toNat ⟨(putT (rd_T41 l0_0 a0_1) a0_2 l1).1, (putT (rd_T41 l0_0 a0_1) a0_2 l1).2.1, (putT (rd_T41 l0_0 a0_1) a0_2 l1).2.2.1⟩) a0_1 (a0_2 + 1) (fun _ => True) (fun _ _ _ _ => trivial)
            (fun _ _ => way_write _ _ _ _ _ (by have := hs.1; omega) hb1 hb2 hb3 (by have := hsx.1; omega) ⟨(putT (rd_T41 l0_0 a0_1) a0_2 l1).1, (putT (rd_T41 l0_0 a0_1) a0_2 l1).2.1, (putT (rd_T41 l0_0 a0_1) a0_2 l1).2.2.1⟩ _ _ _ _ _ (w.heap.size + 1) A1 c1 l1 bk2 hC1 hc1 hrm hcut hput))
          refine (hway 0).mono ?_
          rintro r w' ⟨v0, rfl, hV, hX, _⟩
          by_cases he : (putT (rd_T41 l0_0 a0_1) a0_2 l1).2.2.2 = 0
          · rw [if_pos he] at h
            simp only [Prod.mk.injEq] at h
            obtain ⟨rfl, rfl, rfl, rfl⟩ := h
            rw [if_pos he] at hV
            rw [if_pos he, if_pos he]
            exact ⟨v0, by rw [he], hV, hX.to⟩
          · rw [if_neg he] at h
            simp only [Prod.mk.injEq] at h
            obtain ⟨rfl, rfl, rfl, rfl⟩ := h
            rw [if_neg he] at hV
            rw [if_neg he, if_neg he]
            exact ⟨v0, rfl, hV, hX.to⟩
        · rw [if_neg hrm] at h
          simp only [Prod.mk.injEq] at h
          obtain ⟨rfl, rfl, rfl, rfl⟩ := h
          refine (done_way 38 #[.pointer (some ⟨w.heap.size + 1, 0, none⟩)] (enters_of Try.func38 (by kernel_rfl) rfl) A0_0 c0_0 l0_0 a0_1 a0_2 (((w.alloc O0).alloc O1).alloc O2) (fun _ => False) (fun _ h9 => h9.elim) (Kd.F_mono hF0 (fun k hk => ⟨by rw [hws]; omega, fun h9 => h9⟩)) hc0_0 hm hi hs 1 l0_0 a0_1 a0_2 (fun _ => True) (fun _ _ _ _ => trivial)
            (fun _ _ => way_refuse _ _ _ _ _ (by have := hs.1; omega) (w.heap.size + 1) A1 c1 l1 bk2 hC1 hc1 (Bool.eq_false_iff.2 hrm))).mono ?_
          rintro r w' ⟨v0, rfl, hV, hX, _⟩
          exact ⟨v0, rfl, hV, hX.to⟩
    · rw [if_neg hm] at h
      simp only [Prod.mk.injEq] at h
      obtain ⟨rfl, rfl, rfl, rfl⟩ := h
      refine (done_not _ A0_0 c0_0 l0_0 a0_1 a0_2 _ (Kd.F_now hF0) hc0_0 hs (fun hx => absurd hx hm)).mono ?_
      rw [if_neg hm]
      exact fun r w' hq => hq
  have k10 := (blk_cell bk1 0).trans rfl
  have k11 := (blk_cell bk1 1).trans rfl
  have k12 := (blk_cell bk1 2).trans rfl
  rw [hO0, hO1, hO2] at hdone hB0 k10 k11 k12 bk3
  have HD := Aside0.mk hdone
  have HB0 := Aside0.mk hB0
  have BK3 := Aside0.mk bk3
  clear hF0 hB0 bk1 bk2 bk3 hs hr0_0 hc0_0 h hws hdone hr1 hc1 hC1 hr1l hO0 hO1 hO2 O0 O1 O2
  go_enter Try.func17, Try.ntmps17
  go_wp2_with (go_at_call 34; (refine (HD.out).mono ?_; rintro e_ w4 ⟨v0, rfl, hV, hb⟩; obtain ⟨A4, c4, he4⟩ := Kd.V_slice hV; subst he4; have HV4 := Aside0.mk hV; have HB4 := Aside0.mk hb; have b24 := (hb.block (w.heap.size + 2) (by omega)).trans BK3.out; have BK24 := Aside0.mk b24; have m20 := (blk_cell b24 0).trans rfl; have m21 := (blk_cell b24 1).trans rfl; have m22 := (blk_cell b24 2).trans rfl; have g20 := blk_frozen b24 0; have g21 := blk_frozen b24 1; have g22 := blk_frozen b24 2; clear hV hb b24))
  have hb3 := three_put (u0 := .slice A4 r1.length c4) (u1 := .int .i64 r2) (u2 := .int .i64 r3) BK24.out
  refine bodyPost_ret (results_ct rfl _ _ (w.heap.size + 2) 24 _ (0, 0) _ rfl hb3 Try.underlying24 rfl (by kernel_rfl)) rfl ?_
  exact ⟨_, rfl, Kd.V_mono (Kd.V_step HV4.out (fun k hk _ => three_heap (by omega))) (fun k hk => by omega), three_below (HB0.out.trans (HB4.out.mono (by omega))) (by omega)⟩

-- NOT PRINTED: function 45 (drive_hand_mark)

end Go.Proofs.Ytpbfeegfkiegeaa.M
