/- Part of a claim: what some functions of the program compute, each with its contract; no condition of its own. Written by a program of this workplace (gen.py, over the print of the kit) and by hand. -/
import Derived.Test.YtpbfeegfkiegeaaM0
import Derived.Test.YtpbfeegfkiegeaaM1
import Derived.Test.YtpbfeegfkiegeaaM9
import Derived.Test.YtpbfeegfkiegeaaM23
namespace Go.Proofs.Ytpbfeegfkiegeaa.M
open Go.RowKit Go.Proofs.YtpbfeegfkiegeaaW.PrintWords Go.Proofs.YtpbfeegfkiegeaaW.PrintLast Go.Proofs.YtpbfeegfkiegeaaW.PrintMore
attribute [local go_sem] max2_int min2_int max_two min_two max_three min_three max_four min_four   -- for this text's walks alone
set_option linter.unusedVariables false
set_option linter.unusedSimpArgs false

def reelkeeperref13_New.f (k : Nat) (l0 : List (S41)) : Option ((List (S41)) × Int × Int × Bool) := (reelkeeperref13_May.f k l0 (-1) 0).bind fun t348 => (if t348 = true then (some (l0, (-1), 0, true)) else (some (([] : List (S41)), 0, 0, false)))
theorem reelkeeperref13_New.mono : ∀ a0 k, LeO (reelkeeperref13_New.f k a0) (reelkeeperref13_New.f (k + 1) a0) := by
  intro a0 k
  unfold reelkeeperref13_New.f
  repeat' first
      | (with_reducible exact reelkeeperref13_May.mono _ _ _ _)
      | (with_reducible exact LeO.refl _)
      | (with_reducible exact LeO.none _)
      | (with_reducible refine LeO.ite ?_ ?_)
      | (with_reducible refine LeO.bind ?_ (fun _ => ?_))
      | exact reelkeeperref13_May.mono _ _ _ _
      | exact LeO.none _
      | refine LeO.ite ?_ ?_
      | refine LeO.bind ?_ (fun _ => ?_)
set_option maxHeartbeats 8000000 in
set_option maxRecDepth 100000 in
theorem reelkeeperref13_New.calls (k : Nat) (P0_ : Nat → Prop) (A0 : Option Addr) (c0 : Nat) (l0 : List (S41)) (r1 : List (S41)) (r2 : Int) (r3 : Int) (r4 : Bool) (w : World) (hs0 : Kd.V k41 41 w w.heap.size (fun k_ => P0_ k_) (.slice A0 l0.length c0) l0) (h : reelkeeperref13_New.f k l0 = some (r1, r2, r3, r4)) :
  Calls Try.prog 24 #[.slice A0 l0.length c0] w fun e w' => ∃ v0_ : Value, e = .returned (.tuple #[.agg #[v0_, .int .i64 r2, .int .i64 r3], .bool r4]) ∧ Kd.V k41 41 w' w.heap.size (fun k_ => (P0_ k_ ∨ w.heap.size ≤ k_)) v0_ r1 ∧ Below w.heap.size w w' := by
 have hu24 := Try.underlying24; have HO0 := zA (show Kd.V k41 41 w w.heap.size (fun k_ => (P0_ k_ ∨ w.heap.size ≤ k_)) (.slice A0 l0.length c0) l0 from Kd.V_mono hs0 (fun k_ hk => .inl hk)); have HB := zA (Below.refl w.heap.size w); have H : ((reelkeeperref13_May.f k l0 (-1) 0).bind fun t348 => (if t348 = true then (some (l0, (-1), 0, true)) else (some (([] : List (S41)), 0, 0, false)))) = some (r1, r2, r3, r4) := h; clear h; replace H := Option.bind_eq_some_iff.mp H; obtain ⟨t348, A20, H⟩ := H; replace H : (if t348 = true then (some (l0, (-1), 0, true)) else (some (([] : List (S41)), 0, 0, false))) = some (r1, r2, r3, r4) := H; have A2 := zA A20; clear A20
 by_cases c3 : t348 = true
 ·subst c3
  have H1 : (some (l0, (-1), 0, true)) = some (r1, r2, r3, r4) := by rw [if_pos rfl] at H; exact H
  clear H; have H := H1; clear H1
  simp only [Option.some.injEq, Prod.mk.injEq] at H
  obtain ⟨rfl, rfl, rfl, rfl⟩ := H
  go_enter Try.func24, Try.ntmps24
  go_wp2_with (first | ((with_reducible refine gate_dst (N := 2) rfl ?_); refine box_event ?hg (N := 2) ?hd (cs := #[.slice none 0 0, .int .i64 0, .int .i64 0]) (t := 24) ?hr ?_; (case hd => rfl); (case hg => rfl); (case hr => first | (go_simp; done) | (go_simp; rfl)); intro gb346 hg w4 hbox hb; replace HO0 := zA (Kd.V_below (Kd.V_elderB HO0.out gb346 (Nat.le_of_eq hg.symm)) hb); have BK346 := zA (hbox); have GE346 := zA (gW HB.out hg); replace HB := zA (below_step HB.out hb); clear hb hbox hg) | ((with_reducible refine gate_dst (N := 4) rfl ?_); refine box_event ?hg (N := 4) ?hd (cs := #[.slice none 0 0, .int .i64 0, .int .i64 0]) (t := 24) ?hr ?_; (case hd => rfl); (case hg => rfl); (case hr => first | (go_simp; done) | (go_simp; rfl)); intro gb347 hg w5 hbox hb; replace HO0 := zA (Kd.V_below (Kd.V_elderB HO0.out gb347 (Nat.le_of_eq hg.symm)) hb); have BK347 := zA (hbox); have GE347 := zA (gW HB.out hg); replace HB := zA (below_step HB.out hb); have NB346_347 := zA (gL BK346.out hg); have NB347_346 := zA (gG BK346.out hg); replace BK346 := zA (bK BK346.out hb); clear hb hbox hg; have hnb6 := NB347_346.out; have hnc6 := NB346_347.out; obtain ⟨hcz7_0, hcz7_1, hcz7_2, hfz7_0, hfz7_1, hfz7_2⟩ := b6 BK347.out) | ((with_reducible refine gate_callee (f := 26) rfl ?_); refine goesL_ (some 9) rfl rfl Try.func26 (by kernel_rfl) rfl #[.agg #[.slice A0 l0.length c0, .int .i64 (-1), .int .i64 0]] rfl (by (try simp only [List.map_toArray, List.map_cons, List.map_nil]); first | done | rfl | (simp only [List.length_drop, List.length_take]; rfl)) ?_; (with_reducible refine (reelkeeperref13_May.calls k _ _ l0 (-1) 0 true _ ?side1 ?side2 A2.out).mono ?_); (case side1 => refine (Kd.V_reads' (e := 41) (base := w.heap.size) (ok := fun k_ => (((P0_ k_ ∨ w.heap.size ≤ k_) ∧ k_ ≠ gb346) ∧ k_ ≠ gb347)) (n := l0.length) (c := c0) ?_).2.2; exact (by exact (Kd.V_mono (Kd.V_far (p := ⟨gb347, 2, none⟩) (Kd.V_far (p := ⟨gb347, 1, none⟩) (Kd.V_far (p := ⟨gb347, 0, none⟩) (Kd.V_mono HO0.out (fun k_ hk => (⟨hk, hk.2⟩ : _ ∧ k_ ≠ gb347))) (fun _ hk => hk.2) (.slice A0 l0.length c0)) (fun _ hk => hk.2) (.int .i64 (-1))) (fun _ hk => hk.2) (.int .i64 0)) (fun _ h_ => h_.1)))); (case side2 => exact (Kd.V_reads' HO0.out).2.1); rintro e w8 ⟨rfl, hb⟩; refine ⟨_, rfl, ?_⟩; replace HO0 := zA (Kd.V_below (by exact (Kd.V_mono (Kd.V_far (p := ⟨gb347, 2, none⟩) (Kd.V_far (p := ⟨gb347, 1, none⟩) (Kd.V_far (p := ⟨gb347, 0, none⟩) (Kd.V_mono HO0.out (fun k_ hk => (⟨hk, hk.2⟩ : _ ∧ k_ ≠ gb347))) (fun _ hk => hk.2) (.slice A0 l0.length c0)) (fun _ hk => hk.2) (.int .i64 (-1))) (fun _ hk => hk.2) (.int .i64 0)) (fun _ h_ => h_.1))) hb); replace BK346 := zA (bK (g := gb346) (o := .cells #[.slice none 0 0, .int .i64 0, .int .i64 0] 24 (0, 0)) (by refine blk_far ?_ NB346_347.out _; refine blk_far ?_ NB346_347.out _; refine blk_far ?_ NB346_347.out _; exact BK346.out) hb); replace BK347 := zA (bK (g := gb347) (o := .cells #[.slice A0 l0.length c0, .int .i64 (-1), .int .i64 0] 24 (0, 0)) (by refine blk_put (cs := #[.slice A0 l0.length c0, .int .i64 (-1), .int .i64 0]) ?_ 2 _ rfl; refine blk_put (cs := #[.slice A0 l0.length c0, .int .i64 0, .int .i64 0]) ?_ 1 _ rfl; refine blk_put (cs := #[.slice none 0 0, .int .i64 0, .int .i64 0]) ?_ 0 _ rfl; exact BK347.out) hb); replace HB := zA (below_step (by repeat (first | (with_reducible first | exact HB.out | apply bL | apply bP | apply bD | refine bS ?_ GE346.out | refine bS ?_ GE347.out) | exact HB.out)) hb); (try clear hb); (try clear hb2); (try clear hk); (try clear hi); obtain ⟨hcz9_0, hcz9_1, hcz9_2, hfz9_0, hfz9_1, hfz9_2⟩ := b6 BK347.out; obtain ⟨hcz10_0, hcz10_1, hcz10_2, hfz10_0, hfz10_1, hfz10_2⟩ := b6 BK346.out))
  refine bodyPost_ret (results_ct rfl _ _ gb346 24 #[.slice A0 l0.length c0, .int .i64 (-1), .int .i64 0] (0, 0) _ rfl (by refine blk_put (cs := #[.slice A0 l0.length c0, .int .i64 (-1), .int .i64 0]) ?_ 2 _ rfl; refine blk_put (cs := #[.slice A0 l0.length c0, .int .i64 0, .int .i64 0]) ?_ 1 _ rfl; refine blk_put (cs := #[.slice none 0 0, .int .i64 0, .int .i64 0]) ?_ 0 _ rfl; exact BK346.out) Try.underlying24 rfl (by kernel_rfl)) rfl ?_; exact ⟨_, by first | rfl | (simp [errW_none, errW_some] <;> rfl) | (simp [*, errW_none, errW_some] <;> rfl), by exact Kd.V_mono (Kd.V_far (p := ⟨gb346, 2, none⟩) (Kd.V_far (p := ⟨gb346, 1, none⟩) (Kd.V_far (p := ⟨gb346, 0, none⟩) (Kd.V_mono HO0.out (fun k_ hk => (⟨hk, hk.1.2⟩ : _ ∧ k_ ≠ gb346))) (fun _ hk => hk.2) (.slice A0 l0.length c0)) (fun _ hk => hk.2) (.int .i64 (-1))) (fun _ hk => hk.2) (.int .i64 0)) (fun _ hk => hk.1.1.1), by repeat (first | (with_reducible first | exact HB.out | apply bL | apply bP | apply bD | refine bS ?_ GE346.out | refine bS ?_ GE347.out) | exact HB.out)⟩
 ·replace c3 := Bool.eq_false_iff.mpr c3
  subst c3
  have H1 : (some (([] : List (S41)), 0, 0, false)) = some (r1, r2, r3, r4) := by rw [if_neg (show ¬ (false = true) by decide)] at H; exact H
  clear H; have H := H1; clear H1
  simp only [Option.some.injEq, Prod.mk.injEq] at H
  obtain ⟨rfl, rfl, rfl, rfl⟩ := H
  go_enter Try.func24, Try.ntmps24
  go_wp2_with (first | ((with_reducible refine gate_dst (N := 2) rfl ?_); refine box_event ?hg (N := 2) ?hd (cs := #[.slice none 0 0, .int .i64 0, .int .i64 0]) (t := 24) ?hr ?_; (case hd => rfl); (case hg => rfl); (case hr => first | (go_simp; done) | (go_simp; rfl)); intro gb346 hg w11 hbox hb; replace HO0 := zA (Kd.V_below (Kd.V_elderB HO0.out gb346 (Nat.le_of_eq hg.symm)) hb); have BK346 := zA (hbox); have GE346 := zA (gW HB.out hg); replace HB := zA (below_step HB.out hb); clear hb hbox hg) | ((with_reducible refine gate_dst (N := 4) rfl ?_); refine box_event ?hg (N := 4) ?hd (cs := #[.slice none 0 0, .int .i64 0, .int .i64 0]) (t := 24) ?hr ?_; (case hd => rfl); (case hg => rfl); (case hr => first | (go_simp; done) | (go_simp; rfl)); intro gb347 hg w12 hbox hb; replace HO0 := zA (Kd.V_below (Kd.V_elderB HO0.out gb347 (Nat.le_of_eq hg.symm)) hb); have BK347 := zA (hbox); have GE347 := zA (gW HB.out hg); replace HB := zA (below_step HB.out hb); have NB346_347 := zA (gL BK346.out hg); have NB347_346 := zA (gG BK346.out hg); replace BK346 := zA (bK BK346.out hb); clear hb hbox hg; have hnb13 := NB347_346.out; have hnc13 := NB346_347.out; obtain ⟨hcz14_0, hcz14_1, hcz14_2, hfz14_0, hfz14_1, hfz14_2⟩ := b6 BK347.out) | ((with_reducible refine gate_callee (f := 26) rfl ?_); refine goesL_ (some 9) rfl rfl Try.func26 (by kernel_rfl) rfl #[.agg #[.slice A0 l0.length c0, .int .i64 (-1), .int .i64 0]] rfl (by (try simp only [List.map_toArray, List.map_cons, List.map_nil]); first | done | rfl | (simp only [List.length_drop, List.length_take]; rfl)) ?_; (with_reducible refine (reelkeeperref13_May.calls k _ _ l0 (-1) 0 false _ ?side1 ?side2 A2.out).mono ?_); (case side1 => refine (Kd.V_reads' (e := 41) (base := w.heap.size) (ok := fun k_ => (((P0_ k_ ∨ w.heap.size ≤ k_) ∧ k_ ≠ gb346) ∧ k_ ≠ gb347)) (n := l0.length) (c := c0) ?_).2.2; exact (by exact (Kd.V_mono (Kd.V_far (p := ⟨gb347, 2, none⟩) (Kd.V_far (p := ⟨gb347, 1, none⟩) (Kd.V_far (p := ⟨gb347, 0, none⟩) (Kd.V_mono HO0.out (fun k_ hk => (⟨hk, hk.2⟩ : _ ∧ k_ ≠ gb347))) (fun _ hk => hk.2) (.slice A0 l0.length c0)) (fun _ hk => hk.2) (.int .i64 (-1))) (fun _ hk => hk.2) (.int .i64 0)) (fun _ h_ => h_.1)))); (case side2 => exact (Kd.V_reads' HO0.out).2.1); rintro e w15 ⟨rfl, hb⟩; refine ⟨_, rfl, ?_⟩; replace BK346 := zA (bK (g := gb346) (o := .cells #[.slice none 0 0, .int .i64 0, .int .i64 0] 24 (0, 0)) (by refine blk_far ?_ NB346_347.out _; refine blk_far ?_ NB346_347.out _; refine blk_far ?_ NB346_347.out _; exact BK346.out) hb); replace HB := zA (below_step (by repeat (first | (with_reducible first | exact HB.out | apply bL | apply bP | apply bD | refine bS ?_ GE346.out | refine bS ?_ GE347.out) | exact HB.out)) hb); (try clear hb); (try clear hb2); (try clear hk); (try clear hi); obtain ⟨hcz16_0, hcz16_1, hcz16_2, hfz16_0, hfz16_1, hfz16_2⟩ := b6 BK346.out))
  refine bodyPost_ret (results_ct rfl _ _ gb346 24 #[.slice none 0 0, .int .i64 0, .int .i64 0] (0, 0) _ rfl (by refine blk_put (cs := #[.slice none 0 0, .int .i64 0, .int .i64 0]) ?_ 2 _ rfl; refine blk_put (cs := #[.slice none 0 0, .int .i64 0, .int .i64 0]) ?_ 1 _ rfl; refine blk_put (cs := #[.slice none 0 0, .int .i64 0, .int .i64 0]) ?_ 0 _ rfl; exact BK346.out) Try.underlying24 rfl (by kernel_rfl)) rfl ?_; exact ⟨_, by first | rfl | (simp [errW_none, errW_some] <;> rfl) | (simp [*, errW_none, errW_some] <;> rfl), Kd.V_nil _ _ _ _ _, by repeat (first | (with_reducible first | exact HB.out | apply bL | apply bP | apply bD | refine bS ?_ GE346.out | refine bS ?_ GE347.out) | exact HB.out)⟩

def strl (b : List Int) : List UInt8 := (strOfNums b).toList
theorem strl_eq {l0 l1 : List (List Int)} (he : l0.length = l1.length) (h : ∀ j, j < l0.length → strl (l0.getD j []) = strl (l1.getD j [])) : l0.map strl = l1.map strl := by
  apply List.ext_getElem (by simpa using he)
  intro j h1 h2
  have h1' : j < l0.length := by simpa using h1
  have h2' : j < l1.length := by simpa using h2
  have := h j h1'
  simpa [List.getD_eq_getElem?_getD, h1', h2'] using this
theorem strl_at {l0 l1 : List (List Int)} (h : l0.map strl = l1.map strl) (j : Nat) (hj : j < l0.length) : strl (l0.getD j []) = strl (l1.getD j []) := by
  have hl : l0.length = l1.length := by simpa using congrArg List.length h
  have h2 := congrArg (fun l => l[j]?) h
  simp only [List.getElem?_map] at h2
  rw [List.getElem?_eq_getElem hj, List.getElem?_eq_getElem (by omega)] at h2
  simp only [Option.map_some, Option.some.injEq] at h2
  simpa [List.getD_eq_getElem?_getD, hj, show j < l1.length by omega] using h2
def reelkeeperref03_Same.f (l0 : List (List Int)) (l1 : List (List Int)) : Option Bool := some (decide (l0.map strl = l1.map strl))
set_option maxHeartbeats 8000000 in
set_option maxRecDepth 100000 in
theorem reelkeeperref03_Same.calls (A0 : Option Addr) (c0 : Nat) (l0 : List (List Int)) (A1 : Option Addr) (c1 : Nat) (l1 : List (List Int)) (r : Bool) (w : World) (hr0 : Kd.C (Kd.slice 5 (Kd.int .u8)) w A0 l0.length l0) (hc0 : l0.length ≤ c0) (hr1 : Kd.C (Kd.slice 5 (Kd.int .u8)) w A1 l1.length l1) (hc1 : l1.length ≤ c1) (h : reelkeeperref03_Same.f l0 l1 = some r) :
    Calls Try.prog 64 #[.slice A0 l0.length c0, .slice A1 l1.length c1] w fun e w' => e = .returned (.bool r) ∧ Drawn0 w w' := by
  obtain rfl := Option.some.inj h
  have HR0 := Aside0.mk hr0
  have HC0 := Aside0.mk hc0
  have HR1 := Aside0.mk hr1
  have HC1 := Aside0.mk hc1
  have HM := Aside0.mk hr0.2.1
  clear hr0 hc0 hr1 hc1 h
  by_cases c3 : (l0.length : Int) = (l1.length : Int)
  · have c3b0 : ((l0.length : Int) == (l1.length : Int)) = true := beq_iff_eq.mpr c3
    have c3b1 : ((l0.length : Int) != (l1.length : Int)) = false := bne_eq_false_iff_eq.mpr c3
    have c3b2 : (l0.length == l1.length) = true := by first | simpa using c3 | (simp at c3 ⊢; omega)
    have HE := Aside0.mk (show l0.length = l1.length by omega)
    clear c3
    go_enter Try.func64, Try.ntmps64
    go_wp2
    repeat (go_quiet (fail); try go_wp2)
    go_loopg [5] l0.length (fun kq v5 w' => ∃ (x8 : Int), v5 = .int .i64 x8 ∧ Aside0 (0 ≤ x8 ∧ x8 ≤ l0.length ∧ l0.length - x8.toNat ≤ kq ∧ ∀ j, j < x8.toNat → strl (l0.getD j []) = strl (l1.getD j [])) ∧ Drawn0 w w')
    case atStart => exact ⟨0, rfl, ⟨by omega, by omega, by omega, fun j hj => by simp at hj⟩, by repeat (first | exact Drawn0.refl _ | apply Drawn0.step)⟩
    case round =>
      obtain ⟨x8, rfl, HI, ⟨m1, rfl⟩⟩ := hrel
      by_cases c2 : x8 < (l0.length : Int)
      · have c2b0 : decide (x8 < (l0.length : Int)) = true := decide_eq_true c2
        have c2' : x8 < (l1.length : Int) := by have := HE.out; omega
        have p1 : 0 ≤ x8 := HI.out.1
        obtain ⟨ad, A2, c2_, e1, hx1, hl1, hi1⟩ := at_row HR0.out x8 p1 c2
        cases e1
        obtain ⟨ad', A3, c3_, e2, hx2, hl2, hi2⟩ := at_row HR1.out x8 p1 c2'
        cases e2
        have p2 : x8 ≤ 9223372036854775806 := by have := HM.out; omega
        have HT := Aside0.mk c2
        replace c2 := eq_true c2
        replace c2' := eq_true c2'
        replace p1 := eq_true p1
        have hcv1 := fun (m : Nat) => Kd.C_string (P := Try.prog) (dst := 9) (A := A2) (c := c2_) Try.underlying25 Try.underlying5 Try.underlying9 (Kd.C_below hi1 (pw_below_drewN (Below.refl _ _) m))
        have hcv2 := fun (m : Nat) => Kd.C_string (P := Try.prog) (dst := 9) (A := A3) (c := c3_) Try.underlying25 Try.underlying5 Try.underlying9 (Kd.C_below hi2 (pw_below_drewN (Below.refl _ _) m))
        clear hl1 hi1 hl2 hi2
        by_cases hq : strl (rdRow l0 x8) = strl (rdRow l1 x8)
        · have c7b0 : ((strOfNums (rdRow l0 x8)).toList == (strOfNums (rdRow l1 x8)).toList) = true := beq_iff_eq.mpr hq
          have c7b1 : ((strOfNums (rdRow l0 x8)).toList != (strOfNums (rdRow l1 x8)).toList) = false := bne_eq_false_iff_eq.mpr hq
          have HQ := Aside0.mk hq
          clear hq
          go_wp2
          repeat (go_quiet (fail); try go_wp2)
          go_roundg (l0.length - (x8.toNat + 1))
          case measure => have := HT.out; have := HI.out.1; have := HI.out.2.2.1; omega
          case rel =>
            refine ⟨x8 + 1, wrap_step (by have := HI.out.1; omega) p2, ⟨by have := HI.out.1; omega, by have := HT.out; omega, by have := HI.out.1; omega, fun j hj => ?_⟩, by repeat (first | exact Drawn0.refl _ | apply Drawn0.step)⟩
            by_cases ej : j = x8.toNat
            · subst ej; exact HQ.out
            · exact HI.out.2.2.2 j (by have := HI.out.1; omega)
        · have c7b0 : ((strOfNums (rdRow l0 x8)).toList == (strOfNums (rdRow l1 x8)).toList) = false := beq_eq_false_iff_ne.mpr hq
          have c7b1 : ((strOfNums (rdRow l0 x8)).toList != (strOfNums (rdRow l1 x8)).toList) = true := bne_iff_ne.mpr hq
          have HQ := Aside0.mk hq
          clear hq
          go_wp2
          repeat (go_quiet (fail); try go_wp2)
          go_ret
          refine ⟨?_, by repeat (first | exact Drawn0.refl _ | apply Drawn0.step)⟩
          show Ending.returned (.bool false) = .returned (.bool (decide (l0.map strl = l1.map strl)))
          rw [decide_eq_false (fun e => HQ.out (strl_at e _ (by have := HT.out; have := HI.out.1; omega)))]
      · have c2b0 : decide (x8 < (l0.length : Int)) = false := decide_eq_false c2
        have HT := Aside0.mk c2
        clear c2
        go_wp2
        repeat (go_quiet (fail); try go_wp2)
        go_ret
        refine ⟨?_, by repeat (first | exact Drawn0.refl _ | apply Drawn0.step)⟩
        show Ending.returned (.bool true) = .returned (.bool (decide (l0.map strl = l1.map strl)))
        rw [decide_eq_true (strl_eq HE.out (fun j hj => HI.out.2.2.2 j (by have := HT.out; have := HI.out.2.1; omega)))]
  · have c3b0 : ((l0.length : Int) == (l1.length : Int)) = false := beq_eq_false_iff_ne.mpr c3
    have c3b1 : ((l0.length : Int) != (l1.length : Int)) = true := bne_iff_ne.mpr c3
    have c3b2 : (l0.length == l1.length) = false := by first | simpa using c3 | (simp at c3 ⊢; omega)
    have HE := Aside0.mk (show l0.length ≠ l1.length by omega)
    clear c3
    go_enter Try.func64, Try.ntmps64
    go_wp2
    repeat (go_quiet (fail); try go_wp2)
    go_ret
    refine ⟨?_, by repeat (first | exact Drawn0.refl _ | apply Drawn0.step)⟩
    show Ending.returned (.bool false) = .returned (.bool (decide (l0.map strl = l1.map strl)))
    rw [decide_eq_false (fun e => HE.out (by simpa using congrArg List.length e))]

def reelkeeperref12_Same.f (a0_0 : Int) (l0_1 : List (List Int)) (a0_2 : Bool) (a1_0 : Int) (l1_1 : List (List Int)) (a1_2 : Bool) : Option (Bool) := (reelkeeperref03_Same.f l0_1 l1_1).bind fun t351 => (if t351 = true then (if a0_0 = a1_0 then (some (a0_2 == a1_2)) else (some false)) else (some false))
set_option maxHeartbeats 8000000 in
set_option maxRecDepth 100000 in
theorem reelkeeperref12_Same.calls (a0_0 : Int) (A0_1 : Option Addr) (c0_1 : Nat) (l0_1 : List (List Int)) (a0_2 : Bool) (a1_0 : Int) (A1_1 : Option Addr) (c1_1 : Nat) (l1_1 : List (List Int)) (a1_2 : Bool) (r : Bool) (w : World) (hr0_1 : Kd.C (Kd.slice 5 (Kd.int .u8)) w A0_1 l0_1.length l0_1) (hc0_1 : l0_1.length ≤ c0_1) (hr1_1 : Kd.C (Kd.slice 5 (Kd.int .u8)) w A1_1 l1_1.length l1_1) (hc1_1 : l1_1.length ≤ c1_1) (h : reelkeeperref12_Same.f a0_0 l0_1 a0_2 a1_0 l1_1 a1_2 = some r) :
  Calls Try.prog 49 #[.agg #[.int .i64 a0_0, .slice A0_1 l0_1.length c0_1, .bool a0_2], .agg #[.int .i64 a1_0, .slice A1_1 l1_1.length c1_1, .bool a1_2]] w fun e w' => e = .returned (.bool r) ∧ Below w.heap.size w w' := by
 have hu41 := Try.underlying41; have HR0_1 := zA hr0_1; have HC0_1 := zA hc0_1; clear hr0_1 hc0_1; have HR1_1 := zA hr1_1; have HC1_1 := zA hc1_1; clear hr1_1 hc1_1; have HB := zA (Below.refl w.heap.size w); have H : ((reelkeeperref03_Same.f l0_1 l1_1).bind fun t351 => (if t351 = true then (if a0_0 = a1_0 then (some (a0_2 == a1_2)) else (some false)) else (some false))) = some r := h; clear h; replace H := Option.bind_eq_some_iff.mp H; obtain ⟨t351, A30, H⟩ := H; replace H : (if t351 = true then (if a0_0 = a1_0 then (some (a0_2 == a1_2)) else (some false)) else (some false)) = some r := H; have A3 := zA A30; clear A30
 by_cases c4 : t351 = true
 ·subst c4
  have H1 : (if a0_0 = a1_0 then (some (a0_2 == a1_2)) else (some false)) = some r := by rw [if_pos rfl] at H; exact H
  clear H; have H := H1; clear H1
  by_cases c5 : a0_0 = a1_0
  ·rw [if_pos c5] at H
   have c5b0 : (a0_0 == a1_0) = true := beq_iff_eq.mpr c5; have c5b1 : (a0_0 != a1_0) = false := bne_eq_false_iff_eq.mpr c5; clear c5; obtain rfl := Option.some.inj H
   go_enter Try.func49, Try.ntmps49
   go_wp2_with (first | ((with_reducible refine gate_dst (N := 2) rfl ?_); refine box_event ?hg (N := 2) ?hd (cs := #[.int .i64 a0_0, .slice A0_1 l0_1.length c0_1, .bool a0_2]) (t := 41) ?hr ?_; (case hd => rfl); (case hg => rfl); (case hr => first | (go_simp; done) | (go_simp; rfl)); intro gb349 hg w6 hbox hb; have BK349 := zA (hbox); have GE349 := zA (gW HB.out hg); replace HB := zA (below_step HB.out hb); clear hb hbox hg) | ((with_reducible refine gate_dst (N := 3) rfl ?_); refine box_event ?hg (N := 3) ?hd (cs := #[.int .i64 a1_0, .slice A1_1 l1_1.length c1_1, .bool a1_2]) (t := 41) ?hr ?_; (case hd => rfl); (case hg => rfl); (case hr => first | (go_simp; done) | (go_simp; rfl)); intro gb350 hg w7 hbox hb; have BK350 := zA (hbox); have GE350 := zA (gW HB.out hg); replace HB := zA (below_step HB.out hb); have NB349_350 := zA (gL BK349.out hg); have NB350_349 := zA (gG BK349.out hg); replace BK349 := zA (bK BK349.out hb); clear hb hbox hg; have hnb8 := NB349_350.out; have hnc8 := NB350_349.out; obtain ⟨hcz9_0, hcz9_1, hcz9_2, hfz9_0, hfz9_1, hfz9_2⟩ := b6 BK349.out; obtain ⟨hcz10_0, hcz10_1, hcz10_2, hfz10_0, hfz10_1, hfz10_2⟩ := b6 BK350.out) | ((with_reducible refine gate_callee (f := 64) rfl ?_); refine goesL_ (some 10) rfl rfl Try.func64 (by kernel_rfl) rfl #[.slice A0_1 l0_1.length c0_1, .slice A1_1 l1_1.length c1_1] rfl (by (try simp only [List.map_toArray, List.map_cons, List.map_nil]); first | done | rfl | (simp only [List.length_drop, List.length_take]; rfl)) ?_; (with_reducible refine (reelkeeperref03_Same.calls _ _ l0_1 _ _ l1_1 true _ ?side1 ?side2 ?side3 ?side4 A3.out).mono ?_); (case side1 => repeat (first | exact (Kd.C_below HR0_1.out HB.out) | (with_reducible refine Kd.C_alloc ?_ _) | (with_reducible refine Kd.C_drewN ?_ _) | (with_reducible refine Kd.C_drew ?_))); (case side2 => exact HC0_1.out); (case side3 => repeat (first | exact (Kd.C_below HR1_1.out HB.out) | (with_reducible refine Kd.C_alloc ?_ _) | (with_reducible refine Kd.C_drewN ?_ _) | (with_reducible refine Kd.C_drew ?_))); (case side4 => exact HC1_1.out); rintro e w' ⟨rfl, ⟨nd, rfl⟩⟩; refine ⟨_, rfl, ?_⟩))
   go_ret
   exact ⟨by first | rfl | (simp [errW_none, errW_some] <;> rfl) | (simp [*, errW_none, errW_some] <;> rfl), by repeat (first | (with_reducible first | exact HB.out | apply bL | apply bP | apply bD | refine bS ?_ GE349.out | refine bS ?_ GE350.out) | exact HB.out)⟩
  ·rw [if_neg c5] at H
   have c5b0 : (a0_0 == a1_0) = false := beq_eq_false_iff_ne.mpr c5; have c5b1 : (a0_0 != a1_0) = true := bne_iff_ne.mpr c5; obtain rfl := Option.some.inj H
   go_enter Try.func49, Try.ntmps49
   go_wp2_with (first | ((with_reducible refine gate_dst (N := 2) rfl ?_); refine box_event ?hg (N := 2) ?hd (cs := #[.int .i64 a0_0, .slice A0_1 l0_1.length c0_1, .bool a0_2]) (t := 41) ?hr ?_; (case hd => rfl); (case hg => rfl); (case hr => first | (go_simp; done) | (go_simp; rfl)); intro gb349 hg w11 hbox hb; have BK349 := zA (hbox); have GE349 := zA (gW HB.out hg); replace HB := zA (below_step HB.out hb); clear hb hbox hg) | ((with_reducible refine gate_dst (N := 3) rfl ?_); refine box_event ?hg (N := 3) ?hd (cs := #[.int .i64 a1_0, .slice A1_1 l1_1.length c1_1, .bool a1_2]) (t := 41) ?hr ?_; (case hd => rfl); (case hg => rfl); (case hr => first | (go_simp; done) | (go_simp; rfl)); intro gb350 hg w12 hbox hb; have BK350 := zA (hbox); have GE350 := zA (gW HB.out hg); replace HB := zA (below_step HB.out hb); have NB349_350 := zA (gL BK349.out hg); have NB350_349 := zA (gG BK349.out hg); replace BK349 := zA (bK BK349.out hb); clear hb hbox hg; have hnb13 := NB349_350.out; have hnc13 := NB350_349.out; obtain ⟨hcz14_0, hcz14_1, hcz14_2, hfz14_0, hfz14_1, hfz14_2⟩ := b6 BK349.out; obtain ⟨hcz15_0, hcz15_1, hcz15_2, hfz15_0, hfz15_1, hfz15_2⟩ := b6 BK350.out) | ((with_reducible refine gate_callee (f := 64) rfl ?_); refine goesL_ (some 10) rfl rfl Try.func64 (by kernel_rfl) rfl #[.slice A0_1 l0_1.length c0_1, .slice A1_1 l1_1.length c1_1] rfl (by (try simp only [List.map_toArray, List.map_cons, List.map_nil]); first | done | rfl | (simp only [List.length_drop, List.length_take]; rfl)) ?_; (with_reducible refine (reelkeeperref03_Same.calls _ _ l0_1 _ _ l1_1 true _ ?side1 ?side2 ?side3 ?side4 A3.out).mono ?_); (case side1 => repeat (first | exact (Kd.C_below HR0_1.out HB.out) | (with_reducible refine Kd.C_alloc ?_ _) | (with_reducible refine Kd.C_drewN ?_ _) | (with_reducible refine Kd.C_drew ?_))); (case side2 => exact HC0_1.out); (case side3 => repeat (first | exact (Kd.C_below HR1_1.out HB.out) | (with_reducible refine Kd.C_alloc ?_ _) | (with_reducible refine Kd.C_drewN ?_ _) | (with_reducible refine Kd.C_drew ?_))); (case side4 => exact HC1_1.out); rintro e w' ⟨rfl, ⟨nd, rfl⟩⟩; refine ⟨_, rfl, ?_⟩))
   go_ret
   exact ⟨by first | rfl | (simp [errW_none, errW_some] <;> rfl) | (simp [*, errW_none, errW_some] <;> rfl), by repeat (first | (with_reducible first | exact HB.out | apply bL | apply bP | apply bD | refine bS ?_ GE349.out | refine bS ?_ GE350.out) | exact HB.out)⟩
 ·replace c4 := Bool.eq_false_iff.mpr c4
  subst c4
  have H1 : (some false) = some r := by rw [if_neg (show ¬ (false = true) by decide)] at H; exact H
  clear H; have H := H1; clear H1; obtain rfl := Option.some.inj H
  go_enter Try.func49, Try.ntmps49
  go_wp2_with (first | ((with_reducible refine gate_dst (N := 2) rfl ?_); refine box_event ?hg (N := 2) ?hd (cs := #[.int .i64 a0_0, .slice A0_1 l0_1.length c0_1, .bool a0_2]) (t := 41) ?hr ?_; (case hd => rfl); (case hg => rfl); (case hr => first | (go_simp; done) | (go_simp; rfl)); intro gb349 hg w16 hbox hb; have BK349 := zA (hbox); have GE349 := zA (gW HB.out hg); replace HB := zA (below_step HB.out hb); clear hb hbox hg) | ((with_reducible refine gate_dst (N := 3) rfl ?_); refine box_event ?hg (N := 3) ?hd (cs := #[.int .i64 a1_0, .slice A1_1 l1_1.length c1_1, .bool a1_2]) (t := 41) ?hr ?_; (case hd => rfl); (case hg => rfl); (case hr => first | (go_simp; done) | (go_simp; rfl)); intro gb350 hg w17 hbox hb; have BK350 := zA (hbox); have GE350 := zA (gW HB.out hg); replace HB := zA (below_step HB.out hb); have NB349_350 := zA (gL BK349.out hg); have NB350_349 := zA (gG BK349.out hg); replace BK349 := zA (bK BK349.out hb); clear hb hbox hg; have hnb18 := NB349_350.out; have hnc18 := NB350_349.out; obtain ⟨hcz19_0, hcz19_1, hcz19_2, hfz19_0, hfz19_1, hfz19_2⟩ := b6 BK349.out; obtain ⟨hcz20_0, hcz20_1, hcz20_2, hfz20_0, hfz20_1, hfz20_2⟩ := b6 BK350.out) | ((with_reducible refine gate_callee (f := 64) rfl ?_); refine goesL_ (some 10) rfl rfl Try.func64 (by kernel_rfl) rfl #[.slice A0_1 l0_1.length c0_1, .slice A1_1 l1_1.length c1_1] rfl (by (try simp only [List.map_toArray, List.map_cons, List.map_nil]); first | done | rfl | (simp only [List.length_drop, List.length_take]; rfl)) ?_; (with_reducible refine (reelkeeperref03_Same.calls _ _ l0_1 _ _ l1_1 false _ ?side1 ?side2 ?side3 ?side4 A3.out).mono ?_); (case side1 => repeat (first | exact (Kd.C_below HR0_1.out HB.out) | (with_reducible refine Kd.C_alloc ?_ _) | (with_reducible refine Kd.C_drewN ?_ _) | (with_reducible refine Kd.C_drew ?_))); (case side2 => exact HC0_1.out); (case side3 => repeat (first | exact (Kd.C_below HR1_1.out HB.out) | (with_reducible refine Kd.C_alloc ?_ _) | (with_reducible refine Kd.C_drewN ?_ _) | (with_reducible refine Kd.C_drew ?_))); (case side4 => exact HC1_1.out); rintro e w' ⟨rfl, ⟨nd, rfl⟩⟩; refine ⟨_, rfl, ?_⟩))
  go_ret
  exact ⟨by first | rfl | (simp [errW_none, errW_some] <;> rfl) | (simp [*, errW_none, errW_some] <;> rfl), by repeat (first | (with_reducible first | exact HB.out | apply bL | apply bP | apply bD | refine bS ?_ GE349.out | refine bS ?_ GE350.out) | exact HB.out)⟩

end Go.Proofs.Ytpbfeegfkiegeaa.M
