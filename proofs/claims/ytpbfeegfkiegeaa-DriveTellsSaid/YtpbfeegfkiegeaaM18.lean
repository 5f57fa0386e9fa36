/- Part of a claim: what some functions of the program compute, each with its contract; no condition of its own. Written by a program of this workplace (gen.py, over the print of the kit) and by hand. -/
import Derived.Test.YtpbfeegfkiegeaaM0
import Derived.Test.YtpbfeegfkiegeaaM1
import Derived.Test.YtpbfeegfkiegeaaM5
import Derived.Test.YtpbfeegfkiegeaaM7
import Derived.Test.YtpbfeegfkiegeaaM9
import Derived.Test.YtpbfeegfkiegeaaM17
namespace Go.Proofs.Ytpbfeegfkiegeaa.M
open Go.RowKit Go.Proofs.YtpbfeegfkiegeaaW.PrintWords Go.Proofs.YtpbfeegfkiegeaaW.PrintLast Go.Proofs.YtpbfeegfkiegeaaW.PrintMore
attribute [local go_sem] max2_int min2_int max_two min_two max_three min_three max_four min_four   -- for this text's walks alone
set_option linter.unusedVariables false
set_option linter.unusedSimpArgs false

def tup (x : S41) : Int × List (List Int) × Bool := (x.f0, x.f1, x.f2)
def sameL (l l' : List S41) : Bool := decide (l.map tup = l'.map tup)
theorem tup_inj {x y : S41} (h : tup x = tup y) : x = y := by
  cases x; cases y
  simp only [tup, Prod.mk.injEq] at h
  obtain ⟨rfl, rfl, rfl⟩ := h
  rfl
theorem sameL_iff (l l' : List S41) : sameL l l' = true ↔ l = l' := by
  unfold sameL
  rw [decide_eq_true_iff]
  refine ⟨fun h => ?_, fun h => by rw [h]⟩
  induction l generalizing l' with
  | nil => cases l' with
    | nil => rfl
    | cons y l' => simp at h
  | cons x l ih => cases l' with
    | nil => simp at h
    | cons y l' =>
      simp only [List.map_cons, List.cons.injEq] at h
      rw [tup_inj h.1, ih l' h.2]
theorem sameL_self (l : List S41) : sameL l l = true := (sameL_iff l l).2 rfl
theorem sameL_ne {l l' : List S41} (h : l ≠ l') : sameL l l' = false := by
  cases hq : sameL l l' with
  | false => rfl
  | true => exact absurd ((sameL_iff l l').1 hq) h
theorem tapes_eq {l l' : List S41} (hl : l.length = l'.length) (h : ∀ j, j < l.length → l.getD j z41 = l'.getD j z41) : l = l' := by
  apply List.ext_getElem hl
  intro j h1 h2
  have := h j h1
  simpa [List.getD_eq_getElem?_getD, h1, h2] using this
set_option maxHeartbeats 8000000 in
set_option maxRecDepth 100000 in
theorem eqf_tapes (A0 : Option Addr) (c0 : Nat) (l0 : List S41) (A1 : Option Addr) (c1 : Nat) (l1 : List S41) (w : World) (hr0 : Kd.C k41 w A0 l0.length l0) (hc0 : l0.length ≤ c0) (hr1 : Kd.C k41 w A1 l1.length l1) (hc1 : l1.length ≤ c1) :
    Calls Try.prog 54 #[.slice A0 l0.length c0, .slice A1 l1.length c1, .func (.func 30) #[] #[]] w fun e w' => e = .returned (.bool (sameL l0 l1)) ∧ Below w.heap.size w w' := by
  have HR0 := Aside0.mk hr0
  have HC0 := Aside0.mk hc0
  have HR1 := Aside0.mk hr1
  have HC1 := Aside0.mk hc1
  have HM := Aside0.mk hr0.2.1
  clear hr0 hc0 hr1 hc1
  by_cases c3 : (l0.length : Int) = (l1.length : Int)
  · have c3b0 : ((l0.length : Int) == (l1.length : Int)) = true := beq_iff_eq.mpr c3
    have c3b1 : ((l0.length : Int) != (l1.length : Int)) = false := bne_eq_false_iff_eq.mpr c3
    have c3b2 : (l0.length == l1.length) = true := by first | simpa using c3 | (simp at c3 ⊢; omega)
    have HE := Aside0.mk (show l0.length = l1.length by omega)
    clear c3
    go_enter Try.func54, Try.ntmps54
    go_wp2
    go_loopg [7, 8, 9, 17] l0.length (fun kq _ _ _ v8 w' => ∃ (x8 : Int), v8 = .int .i64 x8 ∧ Aside0 (0 ≤ x8 ∧ x8 ≤ l0.length ∧ l0.length - x8.toNat ≤ kq ∧ ∀ j, j < x8.toNat → l0.getD j z41 = l1.getD j z41) ∧ Aside0 (Below w.heap.size w w'))
    case atStart => exact ⟨0, rfl, ⟨by omega, by omega, by omega, fun j hj => by simp at hj⟩, ⟨by repeat (first | exact Below.refl _ _ | apply pw_below_drewN)⟩⟩
    case round =>
      obtain ⟨x8, rfl, HI, HB⟩ := hrel
      by_cases c2 : x8 < (l0.length : Int)
      · have c2b0 : decide (x8 < (l0.length : Int)) = true := decide_eq_true c2
        have c2' : x8 < (l1.length : Int) := by have := HE.out; omega
        have p1 : 0 ≤ x8 := HI.out.1
        obtain ⟨ad, A2, c2_, e1, hx0, hx1, hx2, hl1, hi1⟩ := at_T41 (Kd.C_below HR0.out HB.out) x8 p1 c2
        cases e1
        obtain ⟨ad', A3, c3_, e2, hy0, hy1, hy2, hl2, hi2⟩ := at_T41 (Kd.C_below HR1.out HB.out) x8 p1 c2'
        cases e2
        have p2 : x8 ≤ 9223372036854775806 := by have := HM.out; omega
        have HT := Aside0.mk c2
        have HY0 := Aside0.mk hy0
        have HY1 := Aside0.mk hy1
        have HY2 := Aside0.mk hy2
        have HL1 := Aside0.mk hl1
        have HL2 := Aside0.mk hl2
        have HI1 := Aside0.mk hi1
        have HI2 := Aside0.mk hi2
        have hbl : (ad'.add (x8.toNat * 3)).block < wr.heap.size := World.block_lt_of_cell? wr _ hy0
        have HBL := Aside0.mk hbl
        have HTS := Aside0.mk (tape_Same.tells (rd_T41 l0 x8).f0 (rd_T41 l0 x8).f1 (rd_T41 l0 x8).f2 (rd_T41 l1 x8).f0 (rd_T41 l1 x8).f1 (rd_T41 l1 x8).f2)
        clear hl1 hl2 hi1 hi2 hbl hy0 hy1 hy2
        replace c2 := eq_true c2
        replace c2' := eq_true c2'
        replace p1 := eq_true p1
        cases hq : decide ((rd_T41 l0 x8).f0 = (rd_T41 l1 x8).f0 ∧ (rd_T41 l0 x8).f2 = (rd_T41 l1 x8).f2 ∧ (rd_T41 l0 x8).f1 = (rd_T41 l1 x8).f1) with
        | true =>
          have HQ := Aside0.mk (of_decide_eq_true hq)
          rw [hq] at HTS
          clear hq
          go_wp2_with (first | ((with_reducible refine gate_dst (N := 8) rfl ?_); refine box_event ?hg (N := 8) ?hd (cs := #[.int .i64 0, .slice none 0 0, .bool false]) (t := 41) ?hr ?_; (case hd => rfl); (case hg => rfl); (case hr => first | (go_simp; done) | (go_simp; rfl)); intro g8 hg8 w8 hbox hb; (have HG8 := Aside0.mk (show g8 = wr.heap.size from hg8); have n1 : (ad'.add (x8.toNat * 3)).block ≠ g8 := (by have := HBL.out; have := HG8.out; omega); have hb8 := three_below (u0 := .int .i64 (rd_T41 l0 x8).f0) (u1 := .slice A2 (rd_T41 l0 x8).f1.length c2_) (u2 := .bool (rd_T41 l0 x8).f2) hb (Nat.le_of_eq hg8.symm); have HB8 := Aside0.mk hb8; have BK8 := Aside0.mk (three_put (u0 := .int .i64 (rd_T41 l0 x8).f0) (u1 := .slice A2 (rd_T41 l0 x8).f1.length c2_) (u2 := .bool (rd_T41 l0 x8).f2) hbox); have k80 := (blk_cell hbox 0).trans rfl; have k81 := (blk_cell hbox 1).trans rfl; have k82 := (blk_cell hbox 2).trans rfl; have f80 := blk_frozen hbox 0; have f81 := blk_frozen hbox 1; have f82 := blk_frozen hbox 2; have hy0 := pw_cell_below hb8 HY0.out; have hy1 := pw_cell_below hb8 HY1.out; have hy2 := pw_cell_below hb8 HY2.out; clear hbox hb hg8 hb8)) | ((with_reducible refine gate_dst (N := 9) rfl ?_); refine box_event ?hg (N := 9) ?hd (cs := #[.int .i64 0, .slice none 0 0, .bool false]) (t := 41) ?hr ?_; (case hd => rfl); (case hg => rfl); (case hr => first | (go_simp; done) | (go_simp; rfl)); intro g9 hg9 w9 hbox hb; (have hw9 := below_step HB8.out hb; have HB9 := Aside0.mk hw9; have b8 := blk_below BK8.out hb; have n2 : g8 ≠ g9 := (by have h1 := blk_lt BK8.out; have h2 : g9 = _ := hg9; omega); have n3 := Ne.symm n2; have HW9 := Aside0.mk (show wr.heap.size ≤ g9 by rw [hg9]; exact HB8.out.size); have k80 := (blk_cell b8 0).trans rfl; have k81 := (blk_cell b8 1).trans rfl; have k82 := (blk_cell b8 2).trans rfl; have k90 := (blk_cell hbox 0).trans rfl; have k91 := (blk_cell hbox 1).trans rfl; have k92 := (blk_cell hbox 2).trans rfl; have f90 := blk_frozen hbox 0; have f91 := blk_frozen hbox 1; have f92 := blk_frozen hbox 2; clear hbox hb hg9 hw9 b8)) | (go_at_call 30; (refine (tape_Same.calls _ A2 c2_ _ _ _ A3 c3_ _ _ true (((w9.setCell ⟨g9, 0, none⟩ (.int .i64 (rd_T41 l1 x8).f0)).setCell ⟨g9, 1, none⟩ (.slice A3 (rd_T41 l1 x8).f1.length c3_)).setCell ⟨g9, 2, none⟩ (.bool (rd_T41 l1 x8).f2)) (Kd.C_below HI1.out (three_below HB9.out HW9.out)) HL1.out (Kd.C_below HI2.out (three_below HB9.out HW9.out)) HL2.out HTS.out).mono ?_; rintro e w2 ⟨rfl, hb⟩; have HB2 := Aside0.mk (below_step (below_step HB.out (three_below HB9.out HW9.out)) hb); clear hb)))
          go_roundg (l0.length - (x8.toNat + 1))
          case measure => have := HT.out; have := HI.out.1; have := HI.out.2.2.1; omega
          case rel =>
            refine ⟨x8 + 1, wrap_step (by have := HI.out.1; omega) p2, ⟨by have := HI.out.1; omega, by have := HT.out; omega, by have := HI.out.1; omega, fun j hj => ?_⟩, ⟨by repeat (first | exact HB2.out | apply pw_below_drewN)⟩⟩
            by_cases ej : j = x8.toNat
            · subst ej; exact tup_inj (by unfold tup; rw [show (l0.getD x8.toNat z41) = rd_T41 l0 x8 from rfl, show (l1.getD x8.toNat z41) = rd_T41 l1 x8 from rfl, HQ.out.1, HQ.out.2.1, HQ.out.2.2])
            · exact HI.out.2.2.2 j (by have := HI.out.1; omega)
        | false =>
          have HQ := Aside0.mk (of_decide_eq_false hq)
          rw [hq] at HTS
          clear hq
          go_wp2_with (first | ((with_reducible refine gate_dst (N := 8) rfl ?_); refine box_event ?hg (N := 8) ?hd (cs := #[.int .i64 0, .slice none 0 0, .bool false]) (t := 41) ?hr ?_; (case hd => rfl); (case hg => rfl); (case hr => first | (go_simp; done) | (go_simp; rfl)); intro g8 hg8 w8 hbox hb; (have HG8 := Aside0.mk (show g8 = wr.heap.size from hg8); have n1 : (ad'.add (x8.toNat * 3)).block ≠ g8 := (by have := HBL.out; have := HG8.out; omega); have hb8 := three_below (u0 := .int .i64 (rd_T41 l0 x8).f0) (u1 := .slice A2 (rd_T41 l0 x8).f1.length c2_) (u2 := .bool (rd_T41 l0 x8).f2) hb (Nat.le_of_eq hg8.symm); have HB8 := Aside0.mk hb8; have BK8 := Aside0.mk (three_put (u0 := .int .i64 (rd_T41 l0 x8).f0) (u1 := .slice A2 (rd_T41 l0 x8).f1.length c2_) (u2 := .bool (rd_T41 l0 x8).f2) hbox); have k80 := (blk_cell hbox 0).trans rfl; have k81 := (blk_cell hbox 1).trans rfl; have k82 := (blk_cell hbox 2).trans rfl; have f80 := blk_frozen hbox 0; have f81 := blk_frozen hbox 1; have f82 := blk_frozen hbox 2; have hy0 := pw_cell_below hb8 HY0.out; have hy1 := pw_cell_below hb8 HY1.out; have hy2 := pw_cell_below hb8 HY2.out; clear hbox hb hg8 hb8)) | ((with_reducible refine gate_dst (N := 9) rfl ?_); refine box_event ?hg (N := 9) ?hd (cs := #[.int .i64 0, .slice none 0 0, .bool false]) (t := 41) ?hr ?_; (case hd => rfl); (case hg => rfl); (case hr => first | (go_simp; done) | (go_simp; rfl)); intro g9 hg9 w9 hbox hb; (have hw9 := below_step HB8.out hb; have HB9 := Aside0.mk hw9; have b8 := blk_below BK8.out hb; have n2 : g8 ≠ g9 := (by have h1 := blk_lt BK8.out; have h2 : g9 = _ := hg9; omega); have n3 := Ne.symm n2; have HW9 := Aside0.mk (show wr.heap.size ≤ g9 by rw [hg9]; exact HB8.out.size); have k80 := (blk_cell b8 0).trans rfl; have k81 := (blk_cell b8 1).trans rfl; have k82 := (blk_cell b8 2).trans rfl; have k90 := (blk_cell hbox 0).trans rfl; have k91 := (blk_cell hbox 1).trans rfl; have k92 := (blk_cell hbox 2).trans rfl; have f90 := blk_frozen hbox 0; have f91 := blk_frozen hbox 1; have f92 := blk_frozen hbox 2; clear hbox hb hg9 hw9 b8)) | (go_at_call 30; (refine (tape_Same.calls _ A2 c2_ _ _ _ A3 c3_ _ _ false (((w9.setCell ⟨g9, 0, none⟩ (.int .i64 (rd_T41 l1 x8).f0)).setCell ⟨g9, 1, none⟩ (.slice A3 (rd_T41 l1 x8).f1.length c3_)).setCell ⟨g9, 2, none⟩ (.bool (rd_T41 l1 x8).f2)) (Kd.C_below HI1.out (three_below HB9.out HW9.out)) HL1.out (Kd.C_below HI2.out (three_below HB9.out HW9.out)) HL2.out HTS.out).mono ?_; rintro e w2 ⟨rfl, hb⟩; have HB2 := Aside0.mk (below_step (below_step HB.out (three_below HB9.out HW9.out)) hb); clear hb)))
          go_ret
          refine ⟨?_, by repeat (first | exact HB2.out | apply pw_below_drewN)⟩
          show Ending.returned (.bool false) = .returned (.bool (sameL l0 l1))
          rw [sameL_ne (fun e => HQ.out (by rw [e]; exact ⟨rfl, rfl, rfl⟩))]
      · have c2b0 : decide (x8 < (l0.length : Int)) = false := decide_eq_false c2
        have HT := Aside0.mk c2
        clear c2
        go_wp2
        go_ret
        refine ⟨?_, by repeat (first | exact HB.out | apply pw_below_drewN)⟩
        show Ending.returned (.bool true) = .returned (.bool (sameL l0 l1))
        rw [(sameL_iff l0 l1).2 (tapes_eq HE.out (fun j hj => HI.out.2.2.2 j (by have := HT.out; have := HI.out.2.1; omega)))]
  · have c3b0 : ((l0.length : Int) == (l1.length : Int)) = false := beq_eq_false_iff_ne.mpr c3
    have c3b1 : ((l0.length : Int) != (l1.length : Int)) = true := bne_iff_ne.mpr c3
    have c3b2 : (l0.length == l1.length) = false := by first | simpa using c3 | (simp at c3 ⊢; omega)
    have HE := Aside0.mk (show l0.length ≠ l1.length by omega)
    clear c3
    go_enter Try.func54, Try.ntmps54
    go_wp2
    go_ret
    refine ⟨?_, by repeat (first | exact Below.refl _ _ | apply pw_below_drewN)⟩
    show Ending.returned (.bool false) = .returned (.bool (sameL l0 l1))
    rw [sameL_ne (fun e => HE.out (by rw [e]))]
def drive_Same.f (l0_0 : List S41) (a0_1 : Int) (a0_2 : Int) (l1_0 : List S41) (a1_1 : Int) (a1_2 : Int) : Option Bool := some (decide (a0_1 = a1_1) && (decide (a0_2 = a1_2) && sameL l0_0 l1_0))
set_option maxHeartbeats 8000000 in
set_option maxRecDepth 100000 in
theorem drive_Same.calls (A0_0 : Option Addr) (c0_0 : Nat) (l0_0 : List S41) (a0_1 : Int) (a0_2 : Int) (A1_0 : Option Addr) (c1_0 : Nat) (l1_0 : List S41) (a1_1 : Int) (a1_2 : Int) (r : Bool) (w : World) (hr0_0 : Kd.C k41 w A0_0 l0_0.length l0_0) (hc0_0 : l0_0.length ≤ c0_0) (hr1_0 : Kd.C k41 w A1_0 l1_0.length l1_0) (hc1_0 : l1_0.length ≤ c1_0) (h : drive_Same.f l0_0 a0_1 a0_2 l1_0 a1_1 a1_2 = some r) :
    Calls Try.prog 28 #[.agg #[.slice A0_0 l0_0.length c0_0, .int .i64 a0_1, .int .i64 a0_2], .agg #[.slice A1_0 l1_0.length c1_0, .int .i64 a1_1, .int .i64 a1_2]] w fun e w' => e = .returned (.bool r) ∧ Below w.heap.size w w' := by
  obtain rfl := Option.some.inj h
  clear h
  have hB0 := below_alloc (below_alloc (Below.refl w.heap.size w) (.cells #[.slice A0_0 l0_0.length c0_0, .int .i64 a0_1, .int .i64 a0_2] 24)) (.cells #[.slice A1_0 l1_0.length c1_0, .int .i64 a1_1, .int .i64 a1_2] 24)
  have bk1 := blk_alloc (blk_new w (.cells #[.slice A0_0 l0_0.length c0_0, .int .i64 a0_1, .int .i64 a0_2] 24)) (.cells #[.slice A1_0 l1_0.length c1_0, .int .i64 a1_1, .int .i64 a1_2] 24)
  have bk2 := blk_new (w.alloc (.cells #[.slice A0_0 l0_0.length c0_0, .int .i64 a0_1, .int .i64 a0_2] 24)) (.cells #[.slice A1_0 l1_0.length c1_0, .int .i64 a1_1, .int .i64 a1_2] 24)
  rw [show (w.alloc (.cells #[.slice A0_0 l0_0.length c0_0, .int .i64 a0_1, .int .i64 a0_2] 24)).heap.size = w.heap.size + 1 by simp] at bk2
  have k10 := (blk_cell bk1 0).trans rfl
  have k11 := (blk_cell bk1 1).trans rfl
  have k12 := (blk_cell bk1 2).trans rfl
  have k20 := (blk_cell bk2 0).trans rfl
  have k21 := (blk_cell bk2 1).trans rfl
  have k22 := (blk_cell bk2 2).trans rfl
  have HCALL := Aside0.mk (eqf_tapes A0_0 c0_0 l0_0 A1_0 c1_0 l1_0 _ (Kd.C_alloc (Kd.C_alloc hr0_0 (.cells #[.slice A0_0 l0_0.length c0_0, .int .i64 a0_1, .int .i64 a0_2] 24)) (.cells #[.slice A1_0 l1_0.length c1_0, .int .i64 a1_1, .int .i64 a1_2] 24)) hc0_0 (Kd.C_alloc (Kd.C_alloc hr1_0 (.cells #[.slice A0_0 l0_0.length c0_0, .int .i64 a0_1, .int .i64 a0_2] 24)) (.cells #[.slice A1_0 l1_0.length c1_0, .int .i64 a1_1, .int .i64 a1_2] 24)) hc1_0)
  have HB0 := Aside0.mk hB0
  clear hB0 bk1 bk2 hr0_0 hc0_0 hr1_0 hc1_0
  by_cases c1 : a0_1 = a1_1
  · have d1 : (a0_1 == a1_1) = true := beq_iff_eq.2 c1
    rw [decide_eq_true c1, Bool.true_and]
    clear c1
    by_cases c2 : a0_2 = a1_2
    · have d2 : (a0_2 == a1_2) = true := beq_iff_eq.2 c2
      rw [decide_eq_true c2, Bool.true_and]
      clear c2
      generalize sameL l0_0 l1_0 = b at HCALL ⊢
      go_enter Try.func28, Try.ntmps28
      go_wp2_with (go_at_call 54; (refine (HCALL.out).mono ?_; rintro e w2 ⟨rfl, hb⟩; have HB2 := Aside0.mk (below_step HB0.out hb); clear hb))
      go_ret
      exact ⟨by first | rfl | (simp; done), by repeat (first | exact HB2.out | apply pw_below_drewN)⟩
    · have d2 : (a0_2 == a1_2) = false := beq_eq_false_iff_ne.2 c2
      rw [decide_eq_false c2, Bool.false_and]
      clear c2
      go_enter Try.func28, Try.ntmps28
      go_wp2
      go_ret
      exact ⟨by first | rfl | (simp; done), by repeat (first | exact HB0.out | apply pw_below_drewN)⟩
  · have d1 : (a0_1 == a1_1) = false := beq_eq_false_iff_ne.2 c1
    rw [decide_eq_false c1, Bool.false_and]
    clear c1
    go_enter Try.func28, Try.ntmps28
    go_wp2
    go_ret
    exact ⟨by first | rfl | (simp; done), by repeat (first | exact HB0.out | apply pw_below_drewN)⟩

def tape_New.f (a0 : Int) : Option (Int × (List (List Int)) × Bool × Bool) := (tape_May.f a0 ([] : List (List Int)) false).bind fun t155 => (if t155 = true then (some (a0, ([] : List (List Int)), false, true)) else (some (0, ([] : List (List Int)), false, false)))
set_option maxHeartbeats 8000000 in
set_option maxRecDepth 100000 in
theorem tape_New.calls (a0 : Int) (r1 : Int) (r2 : List (List Int)) (r3 : Bool) (r4 : Bool) (w : World) (h : tape_New.f a0 = some (r1, r2, r3, r4)) :
  Calls Try.prog 31 #[.int .i64 a0] w fun e w' => ∃ v1_ : Value, e = .returned (.tuple #[.agg #[.int .i64 r1, v1_, .bool r3], .bool r4]) ∧ Kd.S (Kd.slice 5 (Kd.int .u8)) 25 w' w.heap.size (fun _ => True) v1_ r2 ∧ Below w.heap.size w w' := by
 have hu41 := Try.underlying41; have HB := zA (Below.refl w.heap.size w); have H : ((tape_May.f a0 ([] : List (List Int)) false).bind fun t155 => (if t155 = true then (some (a0, ([] : List (List Int)), false, true)) else (some (0, ([] : List (List Int)), false, false)))) = some (r1, r2, r3, r4) := h; clear h; replace H := Option.bind_eq_some_iff.mp H; obtain ⟨t155, A20, H⟩ := H; replace H : (if t155 = true then (some (a0, ([] : List (List Int)), false, true)) else (some (0, ([] : List (List Int)), false, false))) = some (r1, r2, r3, r4) := H; have A2 := zA A20; clear A20
 by_cases c3 : t155 = true
 ·subst c3
  have H1 : (some (a0, ([] : List (List Int)), false, true)) = some (r1, r2, r3, r4) := by rw [if_pos rfl] at H; exact H
  clear H; have H := H1; clear H1
  simp only [Option.some.injEq, Prod.mk.injEq] at H
  obtain ⟨rfl, rfl, rfl, rfl⟩ := H
  go_enter Try.func31, Try.ntmps31
  go_wp2_with (first | ((with_reducible refine gate_dst (N := 2) rfl ?_); refine box_event ?hg (N := 2) ?hd (cs := #[.int .i64 0, .slice none 0 0, .bool false]) (t := 41) ?hr ?_; (case hd => rfl); (case hg => rfl); (case hr => first | (go_simp; done) | (go_simp; rfl)); intro gb153 hg w4 hbox hb; have BK153 := zA (hbox); have GE153 := zA (gW HB.out hg); replace HB := zA (below_step HB.out hb); clear hb hbox hg) | ((with_reducible refine gate_dst (N := 4) rfl ?_); refine box_event ?hg (N := 4) ?hd (cs := #[.int .i64 0, .slice none 0 0, .bool false]) (t := 41) ?hr ?_; (case hd => rfl); (case hg => rfl); (case hr => first | (go_simp; done) | (go_simp; rfl)); intro gb154 hg w5 hbox hb; have BK154 := zA (hbox); have GE154 := zA (gW HB.out hg); replace HB := zA (below_step HB.out hb); have NB153_154 := zA (gL BK153.out hg); have NB154_153 := zA (gG BK153.out hg); replace BK153 := zA (bK BK153.out hb); clear hb hbox hg; have hnb6 := NB154_153.out; have hnc6 := NB153_154.out; obtain ⟨hcz7_0, hcz7_1, hcz7_2, hfz7_0, hfz7_1, hfz7_2⟩ := b6 BK154.out) | ((with_reducible refine gate_callee (f := 52) rfl ?_); refine goesL_ (some 8) rfl rfl Try.func52 (by kernel_rfl) rfl #[.agg #[.int .i64 a0, .slice none 0 0, .bool false]] rfl (by (try simp only [List.map_toArray, List.map_cons, List.map_nil]); first | done | rfl | (simp only [List.length_drop, List.length_take]; rfl)) ?_; (refine (tape_May.calls a0 _ _ ([] : List (List Int)) false true _ ?side1 ?side2 A2.out).mono ?_); (case side1 => exact Kd.C_nil _ _); (case side2 => exact Nat.le_refl _); rintro e w8 ⟨rfl, hb⟩; refine ⟨_, rfl, ?_⟩; replace BK153 := zA (bK (g := gb153) (o := .cells #[.int .i64 0, .slice none 0 0, .bool false] 41 (0, 0)) (by refine blk_far ?_ NB153_154.out _; refine blk_far ?_ NB153_154.out _; refine blk_far ?_ NB153_154.out _; exact BK153.out) hb); replace BK154 := zA (bK (g := gb154) (o := .cells #[.int .i64 a0, .slice none 0 0, .bool false] 41 (0, 0)) (by refine blk_put (cs := #[.int .i64 a0, .slice none 0 0, .bool false]) ?_ 2 _ rfl; refine blk_put (cs := #[.int .i64 a0, .slice none 0 0, .bool false]) ?_ 1 _ rfl; refine blk_put (cs := #[.int .i64 0, .slice none 0 0, .bool false]) ?_ 0 _ rfl; exact BK154.out) hb); replace HB := zA (below_step (by repeat (first | (with_reducible first | exact HB.out | apply bL | apply bP | apply bD | refine bS ?_ GE153.out | refine bS ?_ GE154.out) | exact HB.out)) hb); (try clear hb); (try clear hb2); (try clear hk); (try clear hi); obtain ⟨hcz9_0, hcz9_1, hcz9_2, hfz9_0, hfz9_1, hfz9_2⟩ := b6 BK154.out; obtain ⟨hcz10_0, hcz10_1, hcz10_2, hfz10_0, hfz10_1, hfz10_2⟩ := b6 BK153.out))
  refine bodyPost_ret (results_ct rfl _ _ gb153 41 #[.int .i64 a0, .slice none 0 0, .bool false] (0, 0) _ rfl (by refine blk_put (cs := #[.int .i64 a0, .slice none 0 0, .bool false]) ?_ 2 _ rfl; refine blk_put (cs := #[.int .i64 a0, .slice none 0 0, .bool false]) ?_ 1 _ rfl; refine blk_put (cs := #[.int .i64 0, .slice none 0 0, .bool false]) ?_ 0 _ rfl; exact BK153.out) Try.underlying41 rfl (by kernel_rfl)) rfl ?_; exact ⟨_, by first | rfl | (simp [errW_none, errW_some] <;> rfl) | (simp [*, errW_none, errW_some] <;> rfl), by first | exact Kd.S_nil _ _ _ _ _ | exact Kd.N_nil _ _ _ _ _ | exact Kd.V_nil _ _ _ _ _ | exact Kd.Q_nil _ _ _ _ _ | exact Kd.R_nil _ _ _ _ _, by repeat (first | (with_reducible first | exact HB.out | apply bL | apply bP | apply bD | refine bS ?_ GE153.out | refine bS ?_ GE154.out) | exact HB.out)⟩
 ·replace c3 := Bool.eq_false_iff.mpr c3
  subst c3
  have H1 : (some (0, ([] : List (List Int)), false, false)) = some (r1, r2, r3, r4) := by rw [if_neg (show ¬ (false = true) by decide)] at H; exact H
  clear H; have H := H1; clear H1
  simp only [Option.some.injEq, Prod.mk.injEq] at H
  obtain ⟨rfl, rfl, rfl, rfl⟩ := H
  go_enter Try.func31, Try.ntmps31
  go_wp2_with (first | ((with_reducible refine gate_dst (N := 2) rfl ?_); refine box_event ?hg (N := 2) ?hd (cs := #[.int .i64 0, .slice none 0 0, .bool false]) (t := 41) ?hr ?_; (case hd => rfl); (case hg => rfl); (case hr => first | (go_simp; done) | (go_simp; rfl)); intro gb153 hg w11 hbox hb; have BK153 := zA (hbox); have GE153 := zA (gW HB.out hg); replace HB := zA (below_step HB.out hb); clear hb hbox hg) | ((with_reducible refine gate_dst (N := 4) rfl ?_); refine box_event ?hg (N := 4) ?hd (cs := #[.int .i64 0, .slice none 0 0, .bool false]) (t := 41) ?hr ?_; (case hd => rfl); (case hg => rfl); (case hr => first | (go_simp; done) | (go_simp; rfl)); intro gb154 hg w12 hbox hb; have BK154 := zA (hbox); have GE154 := zA (gW HB.out hg); replace HB := zA (below_step HB.out hb); have NB153_154 := zA (gL BK153.out hg); have NB154_153 := zA (gG BK153.out hg); replace BK153 := zA (bK BK153.out hb); clear hb hbox hg; have hnb13 := NB154_153.out; have hnc13 := NB153_154.out; obtain ⟨hcz14_0, hcz14_1, hcz14_2, hfz14_0, hfz14_1, hfz14_2⟩ := b6 BK154.out) | ((with_reducible refine gate_callee (f := 52) rfl ?_); refine goesL_ (some 8) rfl rfl Try.func52 (by kernel_rfl) rfl #[.agg #[.int .i64 a0, .slice none 0 0, .bool false]] rfl (by (try simp only [List.map_toArray, List.map_cons, List.map_nil]); first | done | rfl | (simp only [List.length_drop, List.length_take]; rfl)) ?_; (refine (tape_May.calls a0 _ _ ([] : List (List Int)) false false _ ?side1 ?side2 A2.out).mono ?_); (case side1 => exact Kd.C_nil _ _); (case side2 => exact Nat.le_refl _); rintro e w15 ⟨rfl, hb⟩; refine ⟨_, rfl, ?_⟩; replace BK153 := zA (bK (g := gb153) (o := .cells #[.int .i64 0, .slice none 0 0, .bool false] 41 (0, 0)) (by refine blk_far ?_ NB153_154.out _; refine blk_far ?_ NB153_154.out _; refine blk_far ?_ NB153_154.out _; exact BK153.out) hb); replace HB := zA (below_step (by repeat (first | (with_reducible first | exact HB.out | apply bL | apply bP | apply bD | refine bS ?_ GE153.out | refine bS ?_ GE154.out) | exact HB.out)) hb); (try clear hb); (try clear hb2); (try clear hk); (try clear hi); obtain ⟨hcz16_0, hcz16_1, hcz16_2, hfz16_0, hfz16_1, hfz16_2⟩ := b6 BK153.out))
  refine bodyPost_ret (results_ct rfl _ _ gb153 41 #[.int .i64 0, .slice none 0 0, .bool false] (0, 0) _ rfl (by refine blk_put (cs := #[.int .i64 0, .slice none 0 0, .bool false]) ?_ 2 _ rfl; refine blk_put (cs := #[.int .i64 0, .slice none 0 0, .bool false]) ?_ 1 _ rfl; refine blk_put (cs := #[.int .i64 0, .slice none 0 0, .bool false]) ?_ 0 _ rfl; exact BK153.out) Try.underlying41 rfl (by kernel_rfl)) rfl ?_; exact ⟨_, by first | rfl | (simp [errW_none, errW_some] <;> rfl) | (simp [*, errW_none, errW_some] <;> rfl), by first | exact Kd.S_nil _ _ _ _ _ | exact Kd.N_nil _ _ _ _ _ | exact Kd.V_nil _ _ _ _ _ | exact Kd.Q_nil _ _ _ _ _ | exact Kd.R_nil _ _ _ _ _, by repeat (first | (with_reducible first | exact HB.out | apply bL | apply bP | apply bD | refine bS ?_ GE153.out | refine bS ?_ GE154.out) | exact HB.out)⟩

end Go.Proofs.Ytpbfeegfkiegeaa.M
