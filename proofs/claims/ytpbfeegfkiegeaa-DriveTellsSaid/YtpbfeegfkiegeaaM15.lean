/- Part of a claim: what some functions of the program compute, each with its contract; no condition of its own. Written by a program of this workplace (gen.py, over the print of the kit) and by hand. -/
import Derived.Test.YtpbfeegfkiegeaaM0
import Derived.Test.YtpbfeegfkiegeaaM5
import Derived.Test.YtpbfeegfkiegeaaM7
import Derived.Test.YtpbfeegfkiegeaaM8
import Derived.Test.YtpbfeegfkiegeaaM9
import Derived.Test.YtpbfeegfkiegeaaM10
import Derived.Test.YtpbfeegfkiegeaaM11
import Derived.Test.YtpbfeegfkiegeaaM14
namespace Go.Proofs.Ytpbfeegfkiegeaa.M
open Go.RowKit Go.Proofs.YtpbfeegfkiegeaaW.PrintWords Go.Proofs.YtpbfeegfkiegeaaW.PrintLast Go.Proofs.YtpbfeegfkiegeaaW.PrintMore
attribute [local go_sem] max2_int min2_int max_two min_two max_three min_three max_four min_four   -- for this text's walks alone
set_option linter.unusedVariables false
set_option linter.unusedSimpArgs false

def readT (a : Int) (l : List (List Int)) (i : Int) : List Int × Int :=
  if mayT a l = true then (if i < 0 then ([], 9) else if i ≥ (l.length : Int) then ([], 8) else (rd_L1 l i, 0)) else ([], 1)
theorem sized_at {l : List (List Int)} (h : sized l) (i : Int) (h0 : 0 ≤ i) (h1 : i < (l.length : Int)) : (rd_L1 l i).length ≤ 1000000 := by
  rw [rd_L1_at _ _ (by omega)]
  exact of_decide_eq_true (List.all_eq_true.1 h.2 _ (List.getElem_mem _))
theorem tape_Read.tells (a : Int) (l : List (List Int)) (b : Bool) (i : Int) (hs : sized l) : tape_Read.f a l b i = some (readT a l i) := by
  unfold tape_Read.f tape_May.f readT
  rw [Option.bind_some]
  by_cases hm : mayT a l = true
  · rw [if_pos hm, if_pos hm]
    by_cases h0 : i < 0
    · rw [if_pos h0, if_pos h0]
    · rw [if_neg h0, if_neg h0]
      by_cases h1 : i ≥ (l.length : Int)
      · rw [if_pos h1, if_pos h1]
      · rw [if_neg h1, if_neg h1, if_pos (by omega), if_pos (by omega)]
        unfold slices_Clone_byte_byte_55.f
        rw [if_pos (sized_at hs i (by omega) (by omega))]
        rfl
  · rw [if_neg hm, if_neg hm]

-- NOT PRINTED: function 47 (drive_Read_1)

def getT (x : S41) (p : Int) : List Int × Int := readT x.f0 x.f1 p
def readD (l : List S41) (i p : Int) : List S41 × Int × Int × List Int × Int :=
  if mayD l i p = true then (if i = -1 then (l, i, p, [], 9) else if (getT (rd_T41 l i) p).2 = 0 then (l, i, p + 1, (getT (rd_T41 l i) p).1, 0) else (l, i, p, (getT (rd_T41 l i) p).1, (getT (rd_T41 l i) p).2)) else (l, i, p, [], 1)
def drive_Read.f (l0_0 : List S41) (a0_1 : Int) (a0_2 : Int) : Option (List S41 × Int × Int × List Int × Int) := if ownable l0_0 then some (readD l0_0 a0_1 a0_2) else none
theorem RdEx.none {w : World} {rb N : Nat} (h : w.heap[rb]? = some (.cells #[.slice none 0 0] 25 (0, 0))) : RdEx rb N [] w := ⟨Option.none, 0, h, Nat.le_refl _, Kd.F_nil _ _ _⟩
set_option maxHeartbeats 8000000 in
set_option maxRecDepth 100000 in
theorem drive_Read.calls (A0_0 : Option Addr) (c0_0 : Nat) (l0_0 : List S41) (a0_1 : Int) (a0_2 : Int) (r1 : List S41) (r2 : Int) (r3 : Int) (r4 : List Int) (r5 : Int) (w : World) (hr0_0 : Kd.C k41 w A0_0 l0_0.length l0_0) (hc0_0 : l0_0.length ≤ c0_0) (h : drive_Read.f l0_0 a0_1 a0_2 = some (r1, r2, r3, r4, r5)) :
    Calls Try.prog 21 #[.agg #[.slice A0_0 l0_0.length c0_0, .int .i64 a0_1, .int .i64 a0_2]] w fun e w' => ∃ v0_ v3_ : Value, e = .returned (.tuple #[.agg #[v0_, .int .i64 r2, .int .i64 r3], v3_, .int .i64 r5]) ∧ Kd.V k41 41 w' w.heap.size (fun k_ => (w.heap.size ≤ k_)) v0_ r1 ∧ Kd.V (Kd.int .u8) 5 w' w.heap.size (fun k_ => (w.heap.size ≤ k_)) v3_ r4 ∧ Below w.heap.size w w' := by
  unfold drive_Read.f at h
  by_cases hs : ownable l0_0
  case neg => rw [if_neg hs] at h; cases h
  rw [if_pos hs, Option.some.injEq] at h
  obtain ⟨O0, hO0⟩ : ∃ O, O = Obj.cells #[.slice A0_0 l0_0.length c0_0, .int .i64 a0_1, .int .i64 a0_2] 24 (0, 0) := ⟨_, rfl⟩
  obtain ⟨O1, hO1⟩ : ∃ O, O = Obj.cells #[.slice none 0 0, .int .i64 0, .int .i64 0] 24 (0, 0) := ⟨_, rfl⟩
  obtain ⟨O2, hO2⟩ : ∃ O, O = Obj.cells #[.slice none 0 0] 25 (0, 0) := ⟨_, rfl⟩
  have hB0 := below_alloc (below_alloc (below_alloc (Below.refl w.heap.size w) O0) O1) O2
  have bk1 : (((w.alloc O0).alloc O1).alloc O2).heap[w.heap.size]? = some O0 := by
    rw [Below.heap_alloc _ _ _ (by simp <;> omega), Below.heap_alloc _ _ _ (by simp <;> omega)]; exact World.alloc_heap_new w O0
  have bk2 : (((w.alloc O0).alloc O1).alloc O2).heap[w.heap.size + 1]? = some O1 := by
    rw [Below.heap_alloc _ _ _ (by simp <;> omega)]; have := World.alloc_heap_new (w.alloc O0) O1; simpa using this
  have bk3 : (((w.alloc O0).alloc O1).alloc O2).heap[w.heap.size + 2]? = some O2 := by
    have := World.alloc_heap_new ((w.alloc O0).alloc O1) O2; simpa using this
  have hws : (((w.alloc O0).alloc O1).alloc O2).heap.size = w.heap.size + 3 := by simp
  have hF0 := Kd.F_alloc (Kd.F_alloc (Kd.F_alloc (Kd.C_F (Kd.heap_iso _ (Kd.heap_pair (Kd.heap_int _) (Kd.heap_pair (Kd.heap_slice _ (Kd.heap_slice _ (Kd.heap_int _))) Kd.heap_bool))) hr0_0) O0) O1) O2
  replace bk1 : (((w.alloc O0).alloc O1).alloc O2).heap[w.heap.size]? = some (.cells #[.slice A0_0 l0_0.length c0_0, .int .i64 a0_1, .int .i64 a0_2] 24 (0, 0)) := by rw [bk1, hO0]
  replace bk2 : (((w.alloc O0).alloc O1).alloc O2).heap[w.heap.size + 1]? = some (.cells #[.slice none 0 0, .int .i64 0, .int .i64 0] 24 (0, 0)) := by rw [bk2, hO1]
  replace bk3 : (((w.alloc O0).alloc O1).alloc O2).heap[w.heap.size + 2]? = some (.cells #[.slice none 0 0] 25 (0, 0)) := by rw [bk3, hO2]
  have hdone : Calls Try.prog 34 #[.agg #[.slice A0_0 l0_0.length c0_0, .int .i64 a0_1, .int .i64 a0_2], .func (.func 47) #[] #[.pointer (some ⟨w.heap.size + 2, 0, none⟩)]] (((w.alloc O0).alloc O1).alloc O2) fun r w' => ∃ v0 : Value, r = .returned (.tuple #[.agg #[v0, .int .i64 r2, .int .i64 r3], .int .i64 r5]) ∧
      Kd.V k41 41 w' 0 (fun k => w.heap.size + 3 ≤ k) v0 r1 ∧ BelowX (w.heap.size + 3) (fun k => k = w.heap.size + 2) (((w.alloc O0).alloc O1).alloc O2) w' ∧ RdEx (w.heap.size + 2) (w.heap.size + 1) r4 w' := by
    unfold readD at h
    by_cases hm : mayD l0_0 a0_1 a0_2 = true
    · rw [if_pos hm] at h
      by_cases hi : a0_1 = -1
      · rw [if_pos hi] at h
        simp only [Prod.mk.injEq] at h
        obtain ⟨rfl, rfl, rfl, rfl, rfl⟩ := h
        refine (done_not _ A0_0 c0_0 l0_0 a0_1 a0_2 _ (Kd.F_now hF0) hc0_0 hs (fun _ => hi)).mono ?_
        rw [if_pos hm, hws]
        rintro r w' ⟨v0, rfl, hV, hb⟩
        exact ⟨v0, rfl, hV, BelowX.of hb, RdEx.none ((hb.block (w.heap.size + 2) (by omega)).trans bk3)⟩
      · rw [if_neg hi] at h
        obtain ⟨hb1, hb2, hb3, hb4⟩ := mayD_in hm hi
        have hsx := ownable_at hs hb1 hb2
        have hrd : tape_Read.f (rd_T41 l0_0 a0_1).f0 (rd_T41 l0_0 a0_1).f1 (rd_T41 l0_0 a0_1).f2 a0_2 = some (getT (rd_T41 l0_0 a0_1) a0_2) := tape_Read.tells _ _ _ _ hsx
        refine (done_way 47 #[.pointer (some ⟨w.heap.size + 2, 0, none⟩)] (enters_of Try.func47 (by kernel_rfl) rfl) A0_0 c0_0 l0_0 a0_1 a0_2 (((w.alloc O0).alloc O1).alloc O2) (fun k => k = w.heap.size + 2) (fun k h9 => by rw [hws]; omega) (Kd.F_mono hF0 (fun k hk => ⟨by rw [hws]; omega, by omega⟩)) hc0_0 hm hi hs (getT (rd_T41 l0_0 a0_1) a0_2).2
          l0_0 a0_1 (a0_2 + 1) (RdEx (w.heap.size + 2) (((w.alloc O0).alloc O1).alloc O2).heap.size (getT (rd_T41 l0_0 a0_1) a0_2).1) (fun W W' hx hm2 => hx.step (by rw [hws]; omega) hm2)
          (fun _ _ => way_read _ _ _ _ (by have := hs.1; omega) hb1 hb2 hb3 (by have := hsx.1; omega) _ _ (w.heap.size + 2) bk3 hrd)).mono ?_
        rw [hws]
        rintro r w' ⟨v0, rfl, hV, hX, hE⟩
        have hE2 : RdEx (w.heap.size + 2) (w.heap.size + 1) (getT (rd_T41 l0_0 a0_1) a0_2).1 w' := by
          obtain ⟨A, c, h1, h2, h3⟩ := hE
          exact ⟨A, c, h1, h2, Kd.F_mono h3 (fun k hk => by omega)⟩
        by_cases he : (getT (rd_T41 l0_0 a0_1) a0_2).2 = 0
        · rw [if_pos he] at h
          simp only [Prod.mk.injEq] at h
          obtain ⟨rfl, rfl, rfl, rfl, rfl⟩ := h
          rw [if_pos he] at hV
          rw [if_pos he, if_pos he]
          exact ⟨v0, by rw [he], hV, hX, hE2⟩
        · rw [if_neg he] at h
          simp only [Prod.mk.injEq] at h
          obtain ⟨rfl, rfl, rfl, rfl, rfl⟩ := h
          rw [if_neg he] at hV
          rw [if_neg he, if_neg he]
          exact ⟨v0, rfl, hV, hX, hE2⟩
    · rw [if_neg hm] at h
      simp only [Prod.mk.injEq] at h
      obtain ⟨rfl, rfl, rfl, rfl, rfl⟩ := h
      refine (done_not _ A0_0 c0_0 l0_0 a0_1 a0_2 _ (Kd.F_now hF0) hc0_0 hs (fun hx => absurd hx hm)).mono ?_
      rw [if_neg hm, hws]
      rintro r w' ⟨v0, rfl, hV, hb⟩
      exact ⟨v0, rfl, hV, BelowX.of hb, RdEx.none ((hb.block (w.heap.size + 2) (by omega)).trans bk3)⟩
  have k10 := (blk_cell bk1 0).trans rfl
  have k11 := (blk_cell bk1 1).trans rfl
  have k12 := (blk_cell bk1 2).trans rfl
  rw [hO0, hO1, hO2] at hdone hB0 k10 k11 k12 bk2
  have HD := Aside0.mk hdone
  have HB0 := Aside0.mk hB0
  have BK2 := Aside0.mk bk2
  clear hF0 hB0 bk1 bk2 bk3 hs hr0_0 hc0_0 h hws hdone hO0 hO1 hO2 O0 O1 O2
  go_enter Try.func21, Try.ntmps21
  go_wp2_with (first | (go_at_call 34; (refine (HD.out).mono ?_; rintro e_ w4 ⟨v0, rfl, hV, hX, hE⟩; obtain ⟨A4, c4, he4⟩ := Kd.V_slice hV; subst he4; obtain ⟨A5, c5, hrb, hrc, hrF⟩ := hE; have HV4 := Aside0.mk hV; have HX4 := Aside0.mk hX; have HRB := Aside0.mk hrb; have HRC := Aside0.mk hrc; have HRF := Aside0.mk hrF; have b24 := (hX.2.2.2.2 (w.heap.size + 1) (by omega) (by omega)).trans BK2.out; have BK24 := Aside0.mk b24; clear hV hX hrb hrc hrF b24)) | ((with_reducible refine gate_dst (N := 6) rfl ?_); refine box_event ?hg (N := 6) ?hd (cs := #[.slice none 0 0, .int .i64 0, .int .i64 0]) (t := 24) ?hr ?_; (case hd => rfl); (case hg => rfl); (case hr => first | (go_simp; done) | (go_simp; rfl)); intro g6 hg6 w6 hbox hb; (have HG6 := Aside0.mk (show g6 = w4.heap.size from hg6); have HB6 := Aside0.mk (show Below w4.heap.size w4 w6 from hb); have BK6 := Aside0.mk hbox; have k60 := (blk_cell hbox 0).trans rfl; have k61 := (blk_cell hbox 1).trans rfl; have k62 := (blk_cell hbox 2).trans rfl; have f60 := blk_frozen hbox 0; have f61 := blk_frozen hbox 1; have f62 := blk_frozen hbox 2; clear hbox hb hg6)))
  have hw4 : w.heap.size + 3 ≤ w4.heap.size := by have h1 := HX4.out.2.2.2.1; simp at h1; omega
  have hn1 : g6 ≠ w.heap.size + 1 := by have := HG6.out; omega
  have hn2 : w.heap.size + 1 + 1 ≠ g6 := by have := HG6.out; omega
  have bk6 : (((w6.setCell ⟨g6, 0, none⟩ (.slice A4 r1.length c4)).setCell ⟨g6, 1, none⟩ (.int .i64 r2)).setCell ⟨g6, 2, none⟩ (.int .i64 r3)).heap[g6]? = some (.cells #[.slice A4 r1.length c4, .int .i64 r2, .int .i64 r3] 24 (0, 0)) := three_put BK6.out
  have br6 : (((w6.setCell ⟨g6, 0, none⟩ (.slice A4 r1.length c4)).setCell ⟨g6, 1, none⟩ (.int .i64 r2)).setCell ⟨g6, 2, none⟩ (.int .i64 r3)).heap[w.heap.size + 1 + 1]? = some (.cells #[.slice A5 r4.length c5] 25 (0, 0)) := (three_heap hn2).trans (blk_below HRB.out HB6.out)
  have b26 : (((w6.setCell ⟨g6, 0, none⟩ (.slice A4 r1.length c4)).setCell ⟨g6, 1, none⟩ (.int .i64 r2)).setCell ⟨g6, 2, none⟩ (.int .i64 r3)).heap[w.heap.size + 1]? = some (.cells #[.slice none 0 0, .int .i64 0, .int .i64 0] 24 (0, 0)) := (three_heap (Ne.symm hn1)).trans (blk_below BK24.out HB6.out)
  have hv6 : Kd.V k41 41 (((w6.setCell ⟨g6, 0, none⟩ (.slice A4 r1.length c4)).setCell ⟨g6, 1, none⟩ (.int .i64 r2)).setCell ⟨g6, 2, none⟩ (.int .i64 r3)) 0 (fun k => w.heap.size + 3 ≤ k) (.slice A4 r1.length c4) r1 := Kd.V_mono (Kd.V_step (Kd.V_below (Kd.V_bound HV4.out) HB6.out) (fun k hk _ => three_heap (by have := hk.2; have := HG6.out; omega))) (fun k hk => hk.1)
  have hf6 : Kd.F (Kd.int .u8) (((w6.setCell ⟨g6, 0, none⟩ (.slice A4 r1.length c4)).setCell ⟨g6, 1, none⟩ (.int .i64 r2)).setCell ⟨g6, 2, none⟩ (.int .i64 r3)) (fun k => w.heap.size + 3 ≤ k) A5 r4.length r4 := Kd.F_mono (Kd.F_step (Kd.F_below (Kd.F_bound HRF.out) HB6.out) (fun k hk _ => three_heap (by have := hk.2; have := HG6.out; omega))) (fun k hk => by have := hk.1; omega)
  have hx4 : Below w.heap.size _ w4 := ⟨HX4.out.1, HX4.out.2.1, HX4.out.2.2.1, HX4.out.2.2.2.1, fun k hk => HX4.out.2.2.2.2 k (by omega) (by omega)⟩
  have hx6 : Below w.heap.size w (((w6.setCell ⟨g6, 0, none⟩ (.slice A4 r1.length c4)).setCell ⟨g6, 1, none⟩ (.int .i64 r2)).setCell ⟨g6, 2, none⟩ (.int .i64 r3)) := three_below ((HB0.out.trans hx4).trans (HB6.out.mono (by omega))) (by have := HG6.out; omega)
  generalize (((w6.setCell ⟨g6, 0, none⟩ (.slice A4 r1.length c4)).setCell ⟨g6, 1, none⟩ (.int .i64 r2)).setCell ⟨g6, 2, none⟩ (.int .i64 r3)) = S6 at bk6 br6 b26 hv6 hf6 hx6 ⊢
  have HQ0 := Aside0.mk (And.intro hn1 ((blk_cell bk6 0).trans rfl))
  have HQ1 := Aside0.mk (And.intro hn1 ((blk_cell bk6 1).trans rfl))
  have HQ2 := Aside0.mk (And.intro hn1 ((blk_cell bk6 2).trans rfl))
  have HQ3 := Aside0.mk (And.intro (show w.heap.size + 1 + 1 ≠ w.heap.size + 1 by omega) ((blk_cell br6 0).trans rfl))
  have m20 := (blk_cell b26 0).trans rfl
  have m21 := (blk_cell b26 1).trans rfl
  have m22 := (blk_cell b26 2).trans rfl
  have g20 := blk_frozen b26 0
  have g21 := blk_frozen b26 1
  have g22 := blk_frozen b26 2
  have BK26 := Aside0.mk b26
  have HV6 := Aside0.mk hv6
  have HF6 := Aside0.mk hf6
  have HX6 := Aside0.mk hx6
  clear bk6 br6 b26 hv6 hf6 hx6 hx4 hw4 hn1 hn2
  go_region_held3 (fun w' => w'.cell? ⟨g6, 0, none⟩ = some (.slice A4 r1.length c4) ∧ w'.cell? ⟨g6, 1, none⟩ = some (.int .i64 r2) ∧ w'.cell? ⟨g6, 2, none⟩ = some (.int .i64 r3) ∧ w'.cell? ⟨w.heap.size + 1 + 1, 0, none⟩ = some (.slice A5 r4.length c5))
    ((refine held4 (X := fun k => k = w.heap.size + 1) (W := S6) ?_ HQ0.out HQ1.out HQ2.out HQ3.out; (with_reducible repeat (first | exact Kp.refl _ _ | refine Kp.set ?_ (.inl (Eq.refl (w.heap.size + 1))) _ | refine Kp.drew ?_))))
    (first | fail)
  all_goals (
    go_wp2
    have hb3 := three_put (u0 := .slice A4 r1.length c4) (u1 := .int .i64 r2) (u2 := .int .i64 r3) BK26.out
    refine bodyPost_ret (results_ctt rfl _ _ (w.heap.size + 1) 24 _ (0, 0) _ rfl (blk_drew hb3) Try.underlying24 rfl (by kernel_rfl)) rfl ?_
    refine ⟨_, _, rfl, ?_, ?_, ?_⟩
    · exact Kd.V_drew (Kd.V_mono (Kd.V_step HV6.out (fun k hk _ => three_heap (by omega))) (fun k hk => by omega))
    · exact Kd.V_drew (Kd.V_mk HRC.out (Kd.F_mono (Kd.F_step HF6.out (fun k hk _ => three_heap (by omega))) (fun k hk => by omega)))
    · exact below_drew (three_below HX6.out (by omega)))

def drive_New.f (l0 : List (S41)) : Option ((List (S41)) × Int × Int × Bool) := (drive_own.f l0 (-1) 0).bind fun bt141 => ((drive_May.f bt141.1 bt141.2.1 bt141.2.2).bind fun t147 => (if t147 = true then (some (bt141.1, bt141.2.1, bt141.2.2, true)) else (some (([] : List (S41)), 0, 0, false))))
set_option maxHeartbeats 8000000 in
set_option maxRecDepth 100000 in
theorem drive_New.calls (A0 : Option Addr) (c0 : Nat) (l0 : List (S41)) (r1 : List (S41)) (r2 : Int) (r3 : Int) (r4 : Bool) (w : World) (hr0 : Kd.C k41 w A0 l0.length l0) (hc0 : l0.length ≤ c0) (h : drive_New.f l0 = some (r1, r2, r3, r4)) :
  Calls Try.prog 23 #[.slice A0 l0.length c0] w fun e w' => ∃ v0_ : Value, e = .returned (.tuple #[.agg #[v0_, .int .i64 r2, .int .i64 r3], .bool r4]) ∧ Kd.V k41 41 w' w.heap.size (fun k_ => (w.heap.size ≤ k_)) v0_ r1 ∧ Below w.heap.size w w' := by
 have hu24 := Try.underlying24; have HR0 := zA hr0; have HC0 := zA hc0; clear hr0 hc0; have HB := zA (Below.refl w.heap.size w); have H : ((drive_own.f l0 (-1) 0).bind fun bt141 => ((drive_May.f bt141.1 bt141.2.1 bt141.2.2).bind fun t147 => (if t147 = true then (some (bt141.1, bt141.2.1, bt141.2.2, true)) else (some (([] : List (S41)), 0, 0, false))))) = some (r1, r2, r3, r4) := h; clear h; replace H := Option.bind_eq_some_iff.mp H; obtain ⟨⟨t141, t144, t145⟩, A20, H⟩ := H; replace H : ((drive_May.f t141 t144 t145).bind fun t147 => (if t147 = true then (some (t141, t144, t145, true)) else (some (([] : List (S41)), 0, 0, false)))) = some (r1, r2, r3, r4) := H; have A2 := zA A20; clear A20; replace H := Option.bind_eq_some_iff.mp H; obtain ⟨t147, A30, H⟩ := H; replace H : (if t147 = true then (some (t141, t144, t145, true)) else (some (([] : List (S41)), 0, 0, false))) = some (r1, r2, r3, r4) := H; have A3 := zA A30; clear A30
 by_cases c4 : t147 = true
 ·subst c4
  have H1 : (some (t141, t144, t145, true)) = some (r1, r2, r3, r4) := by rw [if_pos rfl] at H; exact H
  clear H; have H := H1; clear H1
  simp only [Option.some.injEq, Prod.mk.injEq] at H
  obtain ⟨rfl, rfl, rfl, rfl⟩ := H
  go_enter Try.func23, Try.ntmps23
  go_wp2_with (first | ((with_reducible refine gate_dst (N := 2) rfl ?_); refine box_event ?hg (N := 2) ?hd (cs := #[.slice none 0 0, .int .i64 0, .int .i64 0]) (t := 24) ?hr ?_; (case hd => rfl); (case hg => rfl); (case hr => first | (go_simp; done) | (go_simp; rfl)); intro gb140 hg w5 hbox hb; have BK140 := zA (hbox); have GE140 := zA (gW HB.out hg); replace HB := zA (below_step HB.out hb); clear hb hbox hg) | ((with_reducible refine gate_callee (f := 33) rfl ?_); refine goesL_ (some 7) rfl rfl Try.func33 (by kernel_rfl) rfl #[.agg #[.slice A0 l0.length c0, .int .i64 (-1), .int .i64 0]] rfl (by (try simp only [List.map_toArray, List.map_cons, List.map_nil]); first | done | rfl | (simp only [List.length_drop, List.length_take]; rfl)) ?_; (with_reducible refine (drive_own.calls _ _ l0 (-1) 0 t141 t144 t145 _ ?side1 ?side2 A2.out).mono ?_); (case side1 => repeat (first | exact (Kd.C_below HR0.out HB.out) | (with_reducible refine Kd.C_alloc ?_ _) | (with_reducible refine Kd.C_drewN ?_ _) | (with_reducible refine Kd.C_drew ?_))); (case side2 => exact HC0.out); rintro e w6 ⟨v142, rfl, ho0, hb⟩; refine ⟨_, rfl, ?_⟩; have HO143 := zA (Kd.V_lower (Kd.V_mono (ok' := fun k_ => (w.heap.size ≤ k_) ∧ k_ ≠ gb140) ho0 (fun k_ hk_ => ⟨(Nat.le_trans (below_size (by repeat (first | (with_reducible first | exact HB.out | apply bL | apply bP | apply bD | refine bS ?_ GE140.out) | exact HB.out))) hk_), (Kd.freshB BK140.out k_ hk_)⟩)) (below_size (by repeat (first | (with_reducible first | exact HB.out | apply bL | apply bP | apply bD | refine bS ?_ GE140.out) | exact HB.out)))); replace BK140 := zA (bK BK140.out hb); replace HB := zA (below_step HB.out hb); (try clear hb); (try clear hb2); (try clear hk); (try clear hi); (try clear ho0)) | ((with_reducible refine gate_dst (N := 4) rfl ?_); refine box_event ?hg (N := 4) ?hd (cs := #[.slice none 0 0, .int .i64 0, .int .i64 0]) (t := 24) ?hr ?_; (case hd => rfl); (case hg => rfl); (case hr => first | (go_simp; done) | (go_simp; rfl)); intro gb146 hg w7 hbox hb; replace HO143 := zA (Kd.V_below (Kd.V_elderB HO143.out gb146 (Nat.le_of_eq hg.symm)) hb); have BK146 := zA (hbox); have GE146 := zA (gW HB.out hg); replace HB := zA (below_step HB.out hb); have NB140_146 := zA (gL BK140.out hg); have NB146_140 := zA (gG BK140.out hg); replace BK140 := zA (bK BK140.out hb); clear hb hbox hg; obtain ⟨Ao8, co8, eo8⟩ := Kd.V_slice HO143.out; subst eo8; have hnb9 := NB146_140.out; have hnc9 := NB140_146.out; obtain ⟨hcz10_0, hcz10_1, hcz10_2, hfz10_0, hfz10_1, hfz10_2⟩ := b6 BK146.out) | ((with_reducible refine gate_callee (f := 27) rfl ?_); refine goesL_ (some 9) rfl rfl Try.func27 (by kernel_rfl) rfl #[.agg #[.slice Ao8 t141.length co8, .int .i64 t144, .int .i64 t145]] rfl (by (try simp only [List.map_toArray, List.map_cons, List.map_nil]); first | done | rfl | (simp only [List.length_drop, List.length_take]; rfl)) ?_; (with_reducible refine (drive_May.calls _ _ t141 t144 t145 true _ ?side1 ?side2 A3.out).mono ?_); (case side1 => refine (Kd.V_reads' (e := 41) (base := w.heap.size) (ok := fun k_ => (((w.heap.size ≤ k_) ∧ k_ ≠ gb140) ∧ k_ ≠ gb146)) (n := t141.length) (c := co8) ?_).2.2; exact (by exact (Kd.V_mono (Kd.V_far (p := ⟨gb146, 2, none⟩) (Kd.V_far (p := ⟨gb146, 1, none⟩) (Kd.V_far (p := ⟨gb146, 0, none⟩) (Kd.V_mono HO143.out (fun k_ hk => (⟨hk, hk.2⟩ : _ ∧ k_ ≠ gb146))) (fun _ hk => hk.2) (.slice Ao8 t141.length co8)) (fun _ hk => hk.2) (.int .i64 t144)) (fun _ hk => hk.2) (.int .i64 t145)) (fun _ h_ => h_.1)))); (case side2 => exact (Kd.V_reads' HO143.out).2.1); rintro e w11 ⟨rfl, hb⟩; refine ⟨_, rfl, ?_⟩; replace HO143 := zA (Kd.V_below (by exact (Kd.V_mono (Kd.V_far (p := ⟨gb146, 2, none⟩) (Kd.V_far (p := ⟨gb146, 1, none⟩) (Kd.V_far (p := ⟨gb146, 0, none⟩) (Kd.V_mono HO143.out (fun k_ hk => (⟨hk, hk.2⟩ : _ ∧ k_ ≠ gb146))) (fun _ hk => hk.2) (.slice Ao8 t141.length co8)) (fun _ hk => hk.2) (.int .i64 t144)) (fun _ hk => hk.2) (.int .i64 t145)) (fun _ h_ => h_.1))) hb); replace BK140 := zA (bK (g := gb140) (o := .cells #[.slice none 0 0, .int .i64 0, .int .i64 0] 24 (0, 0)) (by refine blk_far ?_ NB140_146.out _; refine blk_far ?_ NB140_146.out _; refine blk_far ?_ NB140_146.out _; exact BK140.out) hb); replace BK146 := zA (bK (g := gb146) (o := .cells #[.slice Ao8 t141.length co8, .int .i64 t144, .int .i64 t145] 24 (0, 0)) (by refine blk_put (cs := #[.slice Ao8 t141.length co8, .int .i64 t144, .int .i64 0]) ?_ 2 _ rfl; refine blk_put (cs := #[.slice Ao8 t141.length co8, .int .i64 0, .int .i64 0]) ?_ 1 _ rfl; refine blk_put (cs := #[.slice none 0 0, .int .i64 0, .int .i64 0]) ?_ 0 _ rfl; exact BK146.out) hb); replace HB := zA (below_step (by repeat (first | (with_reducible first | exact HB.out | apply bL | apply bP | apply bD | refine bS ?_ GE140.out | refine bS ?_ GE146.out) | exact HB.out)) hb); (try clear hb); (try clear hb2); (try clear hk); (try clear hi); obtain ⟨hcz12_0, hcz12_1, hcz12_2, hfz12_0, hfz12_1, hfz12_2⟩ := b6 BK146.out; obtain ⟨hcz13_0, hcz13_1, hcz13_2, hfz13_0, hfz13_1, hfz13_2⟩ := b6 BK140.out))
  refine bodyPost_ret (results_ct rfl _ _ gb140 24 #[.slice Ao8 t141.length co8, .int .i64 t144, .int .i64 t145] (0, 0) _ rfl (by refine blk_put (cs := #[.slice Ao8 t141.length co8, .int .i64 t144, .int .i64 0]) ?_ 2 _ rfl; refine blk_put (cs := #[.slice Ao8 t141.length co8, .int .i64 0, .int .i64 0]) ?_ 1 _ rfl; refine blk_put (cs := #[.slice none 0 0, .int .i64 0, .int .i64 0]) ?_ 0 _ rfl; exact BK140.out) Try.underlying24 rfl (by kernel_rfl)) rfl ?_; exact ⟨_, by first | rfl | (simp [errW_none, errW_some] <;> rfl) | (simp [*, errW_none, errW_some] <;> rfl), by exact Kd.V_mono (Kd.V_far (p := ⟨gb140, 2, none⟩) (Kd.V_far (p := ⟨gb140, 1, none⟩) (Kd.V_far (p := ⟨gb140, 0, none⟩) (Kd.V_mono HO143.out (fun k_ hk => (⟨hk, hk.1.2⟩ : _ ∧ k_ ≠ gb140))) (fun _ hk => hk.2) (.slice Ao8 t141.length co8)) (fun _ hk => hk.2) (.int .i64 t144)) (fun _ hk => hk.2) (.int .i64 t145)) (fun _ hk => hk.1.1.1), by repeat (first | (with_reducible first | exact HB.out | apply bL | apply bP | apply bD | refine bS ?_ GE140.out | refine bS ?_ GE146.out) | exact HB.out)⟩
 ·replace c4 := Bool.eq_false_iff.mpr c4
  subst c4
  have H1 : (some (([] : List (S41)), 0, 0, false)) = some (r1, r2, r3, r4) := by rw [if_neg (show ¬ (false = true) by decide)] at H; exact H
  clear H; have H := H1; clear H1
  simp only [Option.some.injEq, Prod.mk.injEq] at H
  obtain ⟨rfl, rfl, rfl, rfl⟩ := H
  go_enter Try.func23, Try.ntmps23
  go_wp2_with (first | ((with_reducible refine gate_dst (N := 2) rfl ?_); refine box_event ?hg (N := 2) ?hd (cs := #[.slice none 0 0, .int .i64 0, .int .i64 0]) (t := 24) ?hr ?_; (case hd => rfl); (case hg => rfl); (case hr => first | (go_simp; done) | (go_simp; rfl)); intro gb140 hg w14 hbox hb; have BK140 := zA (hbox); have GE140 := zA (gW HB.out hg); replace HB := zA (below_step HB.out hb); clear hb hbox hg) | ((with_reducible refine gate_callee (f := 33) rfl ?_); refine goesL_ (some 7) rfl rfl Try.func33 (by kernel_rfl) rfl #[.agg #[.slice A0 l0.length c0, .int .i64 (-1), .int .i64 0]] rfl (by (try simp only [List.map_toArray, List.map_cons, List.map_nil]); first | done | rfl | (simp only [List.length_drop, List.length_take]; rfl)) ?_; (with_reducible refine (drive_own.calls _ _ l0 (-1) 0 t141 t144 t145 _ ?side1 ?side2 A2.out).mono ?_); (case side1 => repeat (first | exact (Kd.C_below HR0.out HB.out) | (with_reducible refine Kd.C_alloc ?_ _) | (with_reducible refine Kd.C_drewN ?_ _) | (with_reducible refine Kd.C_drew ?_))); (case side2 => exact HC0.out); rintro e w15 ⟨v142, rfl, ho0, hb⟩; refine ⟨_, rfl, ?_⟩; have HO143 := zA (Kd.V_lower (Kd.V_mono (ok' := fun k_ => (w.heap.size ≤ k_) ∧ k_ ≠ gb140) ho0 (fun k_ hk_ => ⟨(Nat.le_trans (below_size (by repeat (first | (with_reducible first | exact HB.out | apply bL | apply bP | apply bD | refine bS ?_ GE140.out) | exact HB.out))) hk_), (Kd.freshB BK140.out k_ hk_)⟩)) (below_size (by repeat (first | (with_reducible first | exact HB.out | apply bL | apply bP | apply bD | refine bS ?_ GE140.out) | exact HB.out)))); replace BK140 := zA (bK BK140.out hb); replace HB := zA (below_step HB.out hb); (try clear hb); (try clear hb2); (try clear hk); (try clear hi); (try clear ho0)) | ((with_reducible refine gate_dst (N := 4) rfl ?_); refine box_event ?hg (N := 4) ?hd (cs := #[.slice none 0 0, .int .i64 0, .int .i64 0]) (t := 24) ?hr ?_; (case hd => rfl); (case hg => rfl); (case hr => first | (go_simp; done) | (go_simp; rfl)); intro gb146 hg w16 hbox hb; replace HO143 := zA (Kd.V_below (Kd.V_elderB HO143.out gb146 (Nat.le_of_eq hg.symm)) hb); have BK146 := zA (hbox); have GE146 := zA (gW HB.out hg); replace HB := zA (below_step HB.out hb); have NB140_146 := zA (gL BK140.out hg); have NB146_140 := zA (gG BK140.out hg); replace BK140 := zA (bK BK140.out hb); clear hb hbox hg; obtain ⟨Ao17, co17, eo17⟩ := Kd.V_slice HO143.out; subst eo17; have hnb18 := NB146_140.out; have hnc18 := NB140_146.out; obtain ⟨hcz19_0, hcz19_1, hcz19_2, hfz19_0, hfz19_1, hfz19_2⟩ := b6 BK146.out) | ((with_reducible refine gate_callee (f := 27) rfl ?_); refine goesL_ (some 9) rfl rfl Try.func27 (by kernel_rfl) rfl #[.agg #[.slice Ao17 t141.length co17, .int .i64 t144, .int .i64 t145]] rfl (by (try simp only [List.map_toArray, List.map_cons, List.map_nil]); first | done | rfl | (simp only [List.length_drop, List.length_take]; rfl)) ?_; (with_reducible refine (drive_May.calls _ _ t141 t144 t145 false _ ?side1 ?side2 A3.out).mono ?_); (case side1 => refine (Kd.V_reads' (e := 41) (base := w.heap.size) (ok := fun k_ => (((w.heap.size ≤ k_) ∧ k_ ≠ gb140) ∧ k_ ≠ gb146)) (n := t141.length) (c := co17) ?_).2.2; exact (by exact (Kd.V_mono (Kd.V_far (p := ⟨gb146, 2, none⟩) (Kd.V_far (p := ⟨gb146, 1, none⟩) (Kd.V_far (p := ⟨gb146, 0, none⟩) (Kd.V_mono HO143.out (fun k_ hk => (⟨hk, hk.2⟩ : _ ∧ k_ ≠ gb146))) (fun _ hk => hk.2) (.slice Ao17 t141.length co17)) (fun _ hk => hk.2) (.int .i64 t144)) (fun _ hk => hk.2) (.int .i64 t145)) (fun _ h_ => h_.1)))); (case side2 => exact (Kd.V_reads' HO143.out).2.1); rintro e w20 ⟨rfl, hb⟩; refine ⟨_, rfl, ?_⟩; replace BK140 := zA (bK (g := gb140) (o := .cells #[.slice none 0 0, .int .i64 0, .int .i64 0] 24 (0, 0)) (by refine blk_far ?_ NB140_146.out _; refine blk_far ?_ NB140_146.out _; refine blk_far ?_ NB140_146.out _; exact BK140.out) hb); replace HB := zA (below_step (by repeat (first | (with_reducible first | exact HB.out | apply bL | apply bP | apply bD | refine bS ?_ GE140.out | refine bS ?_ GE146.out) | exact HB.out)) hb); (try clear hb); (try clear hb2); (try clear hk); (try clear hi); obtain ⟨hcz21_0, hcz21_1, hcz21_2, hfz21_0, hfz21_1, hfz21_2⟩ := b6 BK140.out))
  refine bodyPost_ret (results_ct rfl _ _ gb140 24 #[.slice none 0 0, .int .i64 0, .int .i64 0] (0, 0) _ rfl (by refine blk_put (cs := #[.slice none 0 0, .int .i64 0, .int .i64 0]) ?_ 2 _ rfl; refine blk_put (cs := #[.slice none 0 0, .int .i64 0, .int .i64 0]) ?_ 1 _ rfl; refine blk_put (cs := #[.slice none 0 0, .int .i64 0, .int .i64 0]) ?_ 0 _ rfl; exact BK140.out) Try.underlying24 rfl (by kernel_rfl)) rfl ?_; exact ⟨_, by first | rfl | (simp [errW_none, errW_some] <;> rfl) | (simp [*, errW_none, errW_some] <;> rfl), Kd.V_nil _ _ _ _ _, by repeat (first | (with_reducible first | exact HB.out | apply bL | apply bP | apply bD | refine bS ?_ GE140.out | refine bS ?_ GE146.out) | exact HB.out)⟩

-- NOT PRINTED: function 68 (slices_EqualFunc_byte_byte_byte_byte)

end Go.Proofs.Ytpbfeegfkiegeaa.M
