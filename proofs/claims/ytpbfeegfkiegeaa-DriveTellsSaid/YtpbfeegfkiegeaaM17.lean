/- Part of a claim: what some functions of the program compute, each with its contract; no condition of its own. Written by a program of this workplace (gen.py, over the print of the kit) and by hand. -/
import Derived.Test.YtpbfeegfkiegeaaM0
import Derived.Test.YtpbfeegfkiegeaaM1
import Derived.Test.YtpbfeegfkiegeaaM9
import Derived.Test.YtpbfeegfkiegeaaM16
namespace Go.Proofs.Ytpbfeegfkiegeaa.M
open Go.RowKit Go.Proofs.YtpbfeegfkiegeaaW.PrintWords Go.Proofs.YtpbfeegfkiegeaaW.PrintLast Go.Proofs.YtpbfeegfkiegeaaW.PrintMore
attribute [local go_sem] max2_int min2_int max_two min_two max_three min_three max_four min_four   -- for this text's walks alone
set_option linter.unusedVariables false
set_option linter.unusedSimpArgs false

theorem slices_Equal_byte_byte.ends (l0 l1 : List Int) (hm : l0.length ≤ 9223372036854775807) (he : l0.length = l1.length) (d : Nat) : ∀ (k : Nat) (i : Int), 0 ≤ i → i ≤ l0.length → (l0.length : Int) - i = d → d < k → (∀ j, j < i.toNat → l0.getD j 0 = l1.getD j 0) →
    slices_Equal_byte_byte.l0 k l0 l1 (l0.length : Int) i = some (decide (l0 = l1)) := by
  induction d with
  | zero =>
    intro k i h0 h1 hd hk hj
    obtain ⟨k, rfl⟩ : ∃ m, k = m + 1 := ⟨k - 1, by omega⟩
    simp only [slices_Equal_byte_byte.l0]
    rw [if_neg (by omega)]
    have : l0 = l1 := by
      apply List.ext_getElem he
      intro j h1 h2
      have := hj j (by omega)
      simpa [List.getD_eq_getElem?_getD, h1, h2] using this
    rw [decide_eq_true this]
  | succ d ih =>
    intro k i h0 h1 hd hk hj
    obtain ⟨k, rfl⟩ : ∃ m, k = m + 1 := ⟨k - 1, by omega⟩
    simp only [slices_Equal_byte_byte.l0]
    rw [if_pos (by omega), if_pos h0, if_pos (by omega), if_pos (by omega)]
    have hw : wrap64 (i + 1) = i + 1 := by unfold wrap64; omega
    by_cases hq : rd l0 i = rd l1 i
    · rw [if_pos hq, hw]
      refine ih k (i + 1) (by omega) (by omega) (by omega) (by omega) (fun j hj2 => ?_)
      by_cases e : j = i.toNat
      · subst e; exact hq
      · exact hj j (by omega)
    · rw [if_neg hq]
      have : l0 ≠ l1 := fun e => hq (by rw [e])
      rw [decide_eq_false this]
theorem slices_Equal_byte_byte.tells (l0 l1 : List Int) (hm : l0.length ≤ 9223372036854775807) : ∃ k, slices_Equal_byte_byte.f k l0 l1 = some (decide (l0 = l1)) := by
  refine ⟨l0.length + 1, ?_⟩
  unfold slices_Equal_byte_byte.f
  by_cases he : l0.length = l1.length
  · rw [if_pos (by omega)]
    exact slices_Equal_byte_byte.ends l0 l1 hm he l0.length _ 0 (by omega) (by omega) (by omega) (by omega) (fun j hj => by simp at hj)
  · rw [if_neg (by omega), decide_eq_false (fun e => he (by rw [e]))]
theorem slices_Equal_byte_byte.says (A0 : Option Addr) (c0 : Nat) (l0 : List Int) (A1 : Option Addr) (c1 : Nat) (l1 : List Int) (w : World) (hr0 : Kd.C (Kd.int .u8) w A0 l0.length l0) (hc0 : l0.length ≤ c0) (hr1 : Kd.C (Kd.int .u8) w A1 l1.length l1) (hc1 : l1.length ≤ c1) :
    Calls Try.prog 69 #[.slice A0 l0.length c0, .slice A1 l1.length c1] w fun e w' => e = .returned (.bool (decide (l0 = l1))) ∧ Drawn0 w w' := by
  obtain ⟨k, hk⟩ := slices_Equal_byte_byte.tells l0 l1 hr0.2.1
  exact slices_Equal_byte_byte.calls k A0 c0 l0 A1 c1 l1 _ w hr0 hc0 hr1 hc1 hk
theorem rows_eq {l0 l1 : List (List Int)} (he : l0.length = l1.length) (h : ∀ j, j < l0.length → l0.getD j [] = l1.getD j []) : l0 = l1 := by
  apply List.ext_getElem he
  intro j h1 h2
  have := h j h1
  simpa [List.getD_eq_getElem?_getD, h1, h2] using this
set_option maxHeartbeats 8000000 in
set_option maxRecDepth 100000 in
theorem eqf_rows (A0 : Option Addr) (c0 : Nat) (l0 : List (List Int)) (A1 : Option Addr) (c1 : Nat) (l1 : List (List Int)) (w : World) (hr0 : Kd.C (Kd.slice 5 (Kd.int .u8)) w A0 l0.length l0) (hc0 : l0.length ≤ c0) (hr1 : Kd.C (Kd.slice 5 (Kd.int .u8)) w A1 l1.length l1) (hc1 : l1.length ≤ c1) :
    Calls Try.prog 68 #[.slice A0 l0.length c0, .slice A1 l1.length c1, .func (.func 69) #[] #[]] w fun e w' => e = .returned (.bool (decide (l0 = l1))) ∧ Drawn0 w w' := by
  have HR0 := Aside0.mk hr0
  have HC0 := Aside0.mk hc0
  have HR1 := Aside0.mk hr1
  have HC1 := Aside0.mk hc1
  have HM := Aside0.mk hr0.2.1
  clear hr0 hc0 hr1 hc1
  by_cases c3 : (l0.length : Int) = (l1.length : Int)
  · have c3b0 : ((l0.length : Int) == (l1.length : Int)) = true := beq_iff_eq.mpr c3
    have c3b1 : ((l0.length : Int) != (l1.length : Int)) = false := bne_eq_false_iff_eq.mpr c3
    have c3b2 : (l0.length == l1.length) = true := by first | simpa using c3 | (simp at c3 ⊢; omega)
    have HE := Aside0.mk (show l0.length = l1.length by omega)
    clear c3
    go_enter Try.func68, Try.ntmps68
    go_wp2
    go_loopg [7, 8, 9, 17] l0.length (fun kq _ _ _ v8 w' => ∃ (x8 : Int), v8 = .int .i64 x8 ∧ Aside0 (0 ≤ x8 ∧ x8 ≤ l0.length ∧ l0.length - x8.toNat ≤ kq ∧ ∀ j, j < x8.toNat → l0.getD j [] = l1.getD j []) ∧ Drawn0 w w')
    case atStart => exact ⟨0, rfl, ⟨by omega, by omega, by omega, fun j hj => by simp at hj⟩, by repeat (first | exact Drawn0.refl _ | apply Drawn0.step)⟩
    case round =>
      obtain ⟨x8, rfl, HI, ⟨m1, rfl⟩⟩ := hrel
      by_cases c2 : x8 < (l0.length : Int)
      · have c2b0 : decide (x8 < (l0.length : Int)) = true := decide_eq_true c2
        have c2' : x8 < (l1.length : Int) := by have := HE.out; omega
        have p1 : 0 ≤ x8 := HI.out.1
        obtain ⟨ad, A2, c2_, e1, hx1, hl1, hi1⟩ := at_row HR0.out x8 p1 c2
        cases e1
        obtain ⟨ad', A3, c3_, e2, hx2, hl2, hi2⟩ := at_row HR1.out x8 p1 c2'
        cases e2
        have p2 : x8 ≤ 9223372036854775806 := by have := HM.out; omega
        have HT := Aside0.mk c2
        replace c2 := eq_true c2
        replace c2' := eq_true c2'
        replace p1 := eq_true p1
        have hcall := fun (m : Nat) => slices_Equal_byte_byte.says A2 c2_ (rdRow l0 x8) A3 c3_ (rdRow l1 x8) (w.drewN m) (Kd.C_below hi1 (pw_below_drewN (Below.refl _ _) m)) hl1 (Kd.C_below hi2 (pw_below_drewN (Below.refl _ _) m)) hl2
        clear hl1 hi1 hl2 hi2
        by_cases hq : rdRow l0 x8 = rdRow l1 x8
        · have HQ := Aside0.mk hq
          rw [decide_eq_true hq] at hcall
          clear hq
          have HCALL := Aside0.mk hcall
          clear hcall
          go_wp2_with (go_at_call 69; refine (HCALL.out _).mono ?_; rintro e w' ⟨rfl, ⟨m2, rfl⟩⟩)
          go_roundg (l0.length - (x8.toNat + 1))
          case measure => have := HT.out; have := HI.out.1; have := HI.out.2.2.1; omega
          case rel =>
            refine ⟨x8 + 1, wrap_step (by have := HI.out.1; omega) p2, ⟨by have := HI.out.1; omega, by have := HT.out; omega, by have := HI.out.1; omega, fun j hj => ?_⟩, by repeat (first | exact Drawn0.refl _ | apply Drawn0.step)⟩
            by_cases ej : j = x8.toNat
            · subst ej; exact HQ.out
            · exact HI.out.2.2.2 j (by have := HI.out.1; omega)
        · have HQ := Aside0.mk hq
          rw [decide_eq_false hq] at hcall
          clear hq
          have HCALL := Aside0.mk hcall
          clear hcall
          go_wp2_with (go_at_call 69; refine (HCALL.out _).mono ?_; rintro e w' ⟨rfl, ⟨m2, rfl⟩⟩)
          go_ret
          refine ⟨?_, by repeat (first | exact Drawn0.refl _ | apply Drawn0.step)⟩
          show Ending.returned (.bool false) = .returned (.bool (decide (l0 = l1)))
          rw [decide_eq_false (fun e => HQ.out (by rw [e]))]
      · have c2b0 : decide (x8 < (l0.length : Int)) = false := decide_eq_false c2
        have HT := Aside0.mk c2
        clear c2
        go_wp2
        go_ret
        refine ⟨?_, by repeat (first | exact Drawn0.refl _ | apply Drawn0.step)⟩
        show Ending.returned (.bool true) = .returned (.bool (decide (l0 = l1)))
        rw [decide_eq_true (rows_eq HE.out (fun j hj => HI.out.2.2.2 j (by have := HT.out; have := HI.out.2.1; omega)))]
  · have c3b0 : ((l0.length : Int) == (l1.length : Int)) = false := beq_eq_false_iff_ne.mpr c3
    have c3b1 : ((l0.length : Int) != (l1.length : Int)) = true := bne_iff_ne.mpr c3
    have c3b2 : (l0.length == l1.length) = false := by first | simpa using c3 | (simp at c3 ⊢; omega)
    have HE := Aside0.mk (show l0.length ≠ l1.length by omega)
    clear c3
    go_enter Try.func68, Try.ntmps68
    go_wp2
    go_ret
    refine ⟨?_, by repeat (first | exact Drawn0.refl _ | apply Drawn0.step)⟩
    show Ending.returned (.bool false) = .returned (.bool (decide (l0 = l1)))
    rw [decide_eq_false (fun e => HE.out (by rw [e]))]
def block_Same.f (l0 : List (List Int)) (l1 : List (List Int)) : Option Bool := some (decide (l0 = l1))
set_option maxHeartbeats 8000000 in
set_option maxRecDepth 100000 in
theorem block_Same.calls (A0 : Option Addr) (c0 : Nat) (l0 : List (List Int)) (A1 : Option Addr) (c1 : Nat) (l1 : List (List Int)) (r : Bool) (w : World) (hr0 : Kd.C (Kd.slice 5 (Kd.int .u8)) w A0 l0.length l0) (hc0 : l0.length ≤ c0) (hr1 : Kd.C (Kd.slice 5 (Kd.int .u8)) w A1 l1.length l1) (hc1 : l1.length ≤ c1) (h : block_Same.f l0 l1 = some r) :
    Calls Try.prog 56 #[.slice A0 l0.length c0, .slice A1 l1.length c1] w fun e w' => e = .returned (.bool r) ∧ Drawn0 w w' := by
  have HCALL := Aside0.mk (eqf_rows A0 c0 l0 A1 c1 l1 w hr0 hc0 hr1 hc1)
  obtain rfl := Option.some.inj h
  clear hr0 hc0 hr1 hc1 h
  generalize decide (l0 = l1) = b at HCALL ⊢
  go_enter Try.func56, Try.ntmps56
  go_wp2_with (go_at_call 68; refine (HCALL.out).mono ?_; rintro e w' ⟨rfl, ⟨m1, rfl⟩⟩)
  go_ret
  exact ⟨by first | rfl | (simp; done), by repeat (first | exact Drawn0.refl _ | apply Drawn0.step)⟩

def tape_Same.f (a0_0 : Int) (l0_1 : List (List Int)) (a0_2 : Bool) (a1_0 : Int) (l1_1 : List (List Int)) (a1_2 : Bool) : Option (Bool) := if a0_0 = a1_0 then (if (a0_2 == a1_2) = true then ((block_Same.f l0_1 l1_1).bind fun t152 => (some t152)) else (some false)) else (some false)
set_option maxHeartbeats 8000000 in
set_option maxRecDepth 100000 in
theorem tape_Same.calls (a0_0 : Int) (A0_1 : Option Addr) (c0_1 : Nat) (l0_1 : List (List Int)) (a0_2 : Bool) (a1_0 : Int) (A1_1 : Option Addr) (c1_1 : Nat) (l1_1 : List (List Int)) (a1_2 : Bool) (r : Bool) (w : World) (hr0_1 : Kd.C (Kd.slice 5 (Kd.int .u8)) w A0_1 l0_1.length l0_1) (hc0_1 : l0_1.length ≤ c0_1) (hr1_1 : Kd.C (Kd.slice 5 (Kd.int .u8)) w A1_1 l1_1.length l1_1) (hc1_1 : l1_1.length ≤ c1_1) (h : tape_Same.f a0_0 l0_1 a0_2 a1_0 l1_1 a1_2 = some r) :
  Calls Try.prog 30 #[.agg #[.int .i64 a0_0, .slice A0_1 l0_1.length c0_1, .bool a0_2], .agg #[.int .i64 a1_0, .slice A1_1 l1_1.length c1_1, .bool a1_2]] w fun e w' => e = .returned (.bool r) ∧ Below w.heap.size w w' := by
 have hu41 := Try.underlying41; have HR0_1 := zA hr0_1; have HC0_1 := zA hc0_1; clear hr0_1 hc0_1; have HR1_1 := zA hr1_1; have HC1_1 := zA hc1_1; clear hr1_1 hc1_1; have HB := zA (Below.refl w.heap.size w); have H : (if a0_0 = a1_0 then (if (a0_2 == a1_2) = true then ((block_Same.f l0_1 l1_1).bind fun t152 => (some t152)) else (some false)) else (some false)) = some r := h; clear h
 by_cases c3 : a0_0 = a1_0
 ·rw [if_pos c3] at H
  have c3b0 : (a0_0 == a1_0) = true := beq_iff_eq.mpr c3; have c3b1 : (a0_0 != a1_0) = false := bne_eq_false_iff_eq.mpr c3; clear c3
  by_cases c4 : (a0_2 == a1_2) = true
  ·rw [if_pos c4] at H
   have c4b0 : (a0_2 == a1_2) = true := c4
   (try (have c4b1 : decide (a0_2 = a1_2) = true := by simpa using c4))
   (try (have c4b2 : (a0_2 == a1_2) = true := by simpa using c4))
   clear c4; replace H := Option.bind_eq_some_iff.mp H; obtain ⟨t152, A50, H⟩ := H; replace H : (some t152) = some r := H; have A5 := zA A50; clear A50; obtain rfl := Option.some.inj H
   go_enter Try.func30, Try.ntmps30
   go_wp2_with (first | ((with_reducible refine gate_dst (N := 2) rfl ?_); refine box_event ?hg (N := 2) ?hd (cs := #[.int .i64 a0_0, .slice A0_1 l0_1.length c0_1, .bool a0_2]) (t := 41) ?hr ?_; (case hd => rfl); (case hg => rfl); (case hr => first | (go_simp; done) | (go_simp; rfl)); intro gb150 hg w6 hbox hb; have BK150 := zA (hbox); have GE150 := zA (gW HB.out hg); replace HB := zA (below_step HB.out hb); clear hb hbox hg) | ((with_reducible refine gate_dst (N := 3) rfl ?_); refine box_event ?hg (N := 3) ?hd (cs := #[.int .i64 a1_0, .slice A1_1 l1_1.length c1_1, .bool a1_2]) (t := 41) ?hr ?_; (case hd => rfl); (case hg => rfl); (case hr => first | (go_simp; done) | (go_simp; rfl)); intro gb151 hg w7 hbox hb; have BK151 := zA (hbox); have GE151 := zA (gW HB.out hg); replace HB := zA (below_step HB.out hb); have NB150_151 := zA (gL BK150.out hg); have NB151_150 := zA (gG BK150.out hg); replace BK150 := zA (bK BK150.out hb); clear hb hbox hg; have hnb8 := NB150_151.out; have hnc8 := NB151_150.out; obtain ⟨hcz9_0, hcz9_1, hcz9_2, hfz9_0, hfz9_1, hfz9_2⟩ := b6 BK150.out; obtain ⟨hcz10_0, hcz10_1, hcz10_2, hfz10_0, hfz10_1, hfz10_2⟩ := b6 BK151.out) | (go_at_call 56; (with_reducible refine (block_Same.calls _ _ l0_1 _ _ l1_1 t152 _ ?side1 ?side2 ?side3 ?side4 A5.out).mono ?_); (case side1 => repeat (first | exact (Kd.C_below HR0_1.out HB.out) | (with_reducible refine Kd.C_alloc ?_ _) | (with_reducible refine Kd.C_drewN ?_ _) | (with_reducible refine Kd.C_drew ?_))); (case side2 => exact HC0_1.out); (case side3 => repeat (first | exact (Kd.C_below HR1_1.out HB.out) | (with_reducible refine Kd.C_alloc ?_ _) | (with_reducible refine Kd.C_drewN ?_ _) | (with_reducible refine Kd.C_drew ?_))); (case side4 => exact HC1_1.out); rintro e w' ⟨rfl, ⟨nd, rfl⟩⟩))
   go_ret
   exact ⟨by first | rfl | (simp [errW_none, errW_some] <;> rfl) | (simp [*, errW_none, errW_some] <;> rfl), by repeat (first | (with_reducible first | exact HB.out | apply bL | apply bP | apply bD | refine bS ?_ GE150.out | refine bS ?_ GE151.out) | exact HB.out)⟩
  ·rw [if_neg c4] at H
   have c4b0 : (a0_2 == a1_2) = false := by simpa using c4
   (try (have c4b1 : decide (a0_2 = a1_2) = false := by simpa using c4))
   (try (have c4b2 : (a0_2 == a1_2) = false := by simpa using c4))
   (try (have c4b3 : ¬ (a0_2 = a1_2) := by simpa using c4))
   clear c4; obtain rfl := Option.some.inj H
   go_enter Try.func30, Try.ntmps30
   go_wp2_with (first | ((with_reducible refine gate_dst (N := 2) rfl ?_); refine box_event ?hg (N := 2) ?hd (cs := #[.int .i64 a0_0, .slice A0_1 l0_1.length c0_1, .bool a0_2]) (t := 41) ?hr ?_; (case hd => rfl); (case hg => rfl); (case hr => first | (go_simp; done) | (go_simp; rfl)); intro gb150 hg w11 hbox hb; have BK150 := zA (hbox); have GE150 := zA (gW HB.out hg); replace HB := zA (below_step HB.out hb); clear hb hbox hg) | ((with_reducible refine gate_dst (N := 3) rfl ?_); refine box_event ?hg (N := 3) ?hd (cs := #[.int .i64 a1_0, .slice A1_1 l1_1.length c1_1, .bool a1_2]) (t := 41) ?hr ?_; (case hd => rfl); (case hg => rfl); (case hr => first | (go_simp; done) | (go_simp; rfl)); intro gb151 hg w12 hbox hb; have BK151 := zA (hbox); have GE151 := zA (gW HB.out hg); replace HB := zA (below_step HB.out hb); have NB150_151 := zA (gL BK150.out hg); have NB151_150 := zA (gG BK150.out hg); replace BK150 := zA (bK BK150.out hb); clear hb hbox hg; have hnb13 := NB150_151.out; have hnc13 := NB151_150.out; obtain ⟨hcz14_0, hcz14_1, hcz14_2, hfz14_0, hfz14_1, hfz14_2⟩ := b6 BK150.out; obtain ⟨hcz15_0, hcz15_1, hcz15_2, hfz15_0, hfz15_1, hfz15_2⟩ := b6 BK151.out))
   go_ret
   exact ⟨by first | rfl | (simp [errW_none, errW_some] <;> rfl) | (simp [*, errW_none, errW_some] <;> rfl), by repeat (first | (with_reducible first | exact HB.out | apply bL | apply bP | apply bD | refine bS ?_ GE150.out | refine bS ?_ GE151.out) | exact HB.out)⟩
 ·rw [if_neg c3] at H
  have c3b0 : (a0_0 == a1_0) = false := beq_eq_false_iff_ne.mpr c3; have c3b1 : (a0_0 != a1_0) = true := bne_iff_ne.mpr c3; obtain rfl := Option.some.inj H
  go_enter Try.func30, Try.ntmps30
  go_wp2_with (first | ((with_reducible refine gate_dst (N := 2) rfl ?_); refine box_event ?hg (N := 2) ?hd (cs := #[.int .i64 a0_0, .slice A0_1 l0_1.length c0_1, .bool a0_2]) (t := 41) ?hr ?_; (case hd => rfl); (case hg => rfl); (case hr => first | (go_simp; done) | (go_simp; rfl)); intro gb150 hg w16 hbox hb; have BK150 := zA (hbox); have GE150 := zA (gW HB.out hg); replace HB := zA (below_step HB.out hb); clear hb hbox hg) | ((with_reducible refine gate_dst (N := 3) rfl ?_); refine box_event ?hg (N := 3) ?hd (cs := #[.int .i64 a1_0, .slice A1_1 l1_1.length c1_1, .bool a1_2]) (t := 41) ?hr ?_; (case hd => rfl); (case hg => rfl); (case hr => first | (go_simp; done) | (go_simp; rfl)); intro gb151 hg w17 hbox hb; have BK151 := zA (hbox); have GE151 := zA (gW HB.out hg); replace HB := zA (below_step HB.out hb); have NB150_151 := zA (gL BK150.out hg); have NB151_150 := zA (gG BK150.out hg); replace BK150 := zA (bK BK150.out hb); clear hb hbox hg; have hnb18 := NB150_151.out; have hnc18 := NB151_150.out; obtain ⟨hcz19_0, hcz19_1, hcz19_2, hfz19_0, hfz19_1, hfz19_2⟩ := b6 BK150.out; obtain ⟨hcz20_0, hcz20_1, hcz20_2, hfz20_0, hfz20_1, hfz20_2⟩ := b6 BK151.out))
  go_ret
  exact ⟨by first | rfl | (simp [errW_none, errW_some] <;> rfl) | (simp [*, errW_none, errW_some] <;> rfl), by repeat (first | (with_reducible first | exact HB.out | apply bL | apply bP | apply bD | refine bS ?_ GE150.out | refine bS ?_ GE151.out) | exact HB.out)⟩

theorem tape_Same.tells (a : Int) (l : List (List Int)) (b : Bool) (a' : Int) (l' : List (List Int)) (b' : Bool) : tape_Same.f a l b a' l' b' = some (decide (a = a' ∧ b = b' ∧ l = l')) := by
  unfold tape_Same.f block_Same.f
  by_cases h0 : a = a'
  · rw [if_pos h0]
    by_cases h1 : b = b'
    · rw [if_pos (beq_iff_eq.2 h1), Option.bind_some]
      by_cases h2 : l = l'
      · rw [decide_eq_true h2, decide_eq_true ⟨h0, h1, h2⟩]
      · rw [decide_eq_false h2, decide_eq_false (fun h => h2 h.2.2)]
    · rw [if_neg (fun h => h1 (beq_iff_eq.1 h)), decide_eq_false (fun h => h1 h.2.1)]
  · rw [if_neg h0, decide_eq_false (fun h => h0 h.1)]
-- NOT PRINTED: function 54 (api_Tape_54)

end Go.Proofs.Ytpbfeegfkiegeaa.M
