/- Part of a claim: what some functions of the program compute, each with its contract; no condition of its own. Written by a program of this workplace (gen.py, over the print of the kit) and by hand. -/
import Derived.Test.YtckoafndhccomaaM0
import Derived.Test.YtckoafndhccomaaM9
import Derived.Test.YtckoafndhccomaaM10
import Derived.Test.YtckoafndhccomaaM11
import Derived.Test.YtckoafndhccomaaM12
import Derived.Test.YtckoafndhccomaaM15
import Derived.Test.YtckoafndhccomaaM17
import Derived.Test.YtckoafndhccomaaM19
import Derived.Test.YtckoafndhccomaaM21
import Derived.Test.YtckoafndhccomaaM24
import Derived.Test.YtckoafndhccomaaM25
import Derived.Test.YtckoafndhccomaaM26
import Derived.Test.YtckoafndhccomaaM28
namespace Go.Proofs.Ytckoafndhccomaa.M
open Go.RowKit Go.Proofs.YtckoafndhccomaaW.PrintWords Go.Proofs.YtckoafndhccomaaW.PrintLast Go.Proofs.YtckoafndhccomaaW.PrintMore
attribute [local go_sem] max2_int min2_int max_two min_two max_three min_three max_four min_four   -- for this text's walks alone
set_option linter.unusedVariables false
set_option linter.unusedSimpArgs false

/-! ### reelkeeperlaw11_RecordTells: function 3 -/
mutual
def reelkeeperlaw11_RecordTells.j0 : Nat → List (List Int) → Int → List (List Int) → Int → Bool → Bool → Option (Bool)
  | 0, _, _, _, _, _, _ => none
  | k + 1, x0, x1, x2, x3, x9, x38 => if x38 = true then (some x9) else ((record_Group.f x0 x1).bind fun bt155 => ((reelkeeperref11_Group.f k x0 x1).bind fun bt159 => ((record_Blocks.f x2).bind fun bt163 => ((reelkeeperref11_Blocks.f k x2).bind fun bt167 => ((reelkeeperref03_Same.f bt155.1 bt159.1).bind fun t171 => ((reelkeeperref03_Same.f bt163.1 bt167.1).bind fun t172 => (reelkeeperlaw11_RecordTells.l0 k x1 x2 x3 bt155.2 bt159.2 bt163.2 bt167.2 t171 t172 0)))))))
def reelkeeperlaw11_RecordTells.l0 : Nat → Int → List (List Int) → Int → Bool → Bool → Bool → Bool → Bool → Bool → Int → Option (Bool)
  | 0, _, _, _, _, _, _, _, _, _, _ => none
  | k + 1, x1, x2, x3, x13, x15, x17, x19, x20, x21, x22 => if x22 < (x2.length : Int) then (if 0 ≤ x22 then ((reelkeeperref11_May.f (rd_L1 x2 x22)).bind fun t176 => ((record_May.f (rd_L1 x2 x22)).bind fun t178 => (if (t178 != t176) = true then (none) else (reelkeeperlaw11_RecordTells.l0 k x1 x2 x3 x13 x15 x17 x19 x20 x21 (wrap64 (x22 + 1)))))) else (none)) else (if x20 = true then (if (x13 == x15) = true then (if x21 = true then (if (x17 == x19) = true then ((record_Many.f x3 x1).bind fun t173 => ((reelkeeperref11_Many.f k x3 x1).bind fun t174 => (some (t173 == t174)))) else (none)) else (none)) else (none)) else (none))
end
def reelkeeperlaw11_RecordTells.f (k : Nat) (l0 : List (List Int)) (a1 : Int) (l2 : List (List Int)) (a3 : Int) : Option (Bool) := (reelkeeperlaw11_awake.f k).bind fun t152 => ((reelkeeperlaw03_Few.f k l0).bind fun t153 => ((reelkeeperlaw11_FewRecs.f k l2).bind fun t154 => (if t152 = true then (if t153 = true then (reelkeeperlaw11_RecordTells.j0 k l0 a1 l2 a3 t152 (!t154)) else (reelkeeperlaw11_RecordTells.j0 k l0 a1 l2 a3 t152 true)) else (reelkeeperlaw11_RecordTells.j0 k l0 a1 l2 a3 t152 true))))
theorem reelkeeperlaw11_RecordTells.mono_l : ∀ k, (∀ y0 y1 y2 y3 y4 y5, LeO (reelkeeperlaw11_RecordTells.j0 k y0 y1 y2 y3 y4 y5) (reelkeeperlaw11_RecordTells.j0 (k + 1) y0 y1 y2 y3 y4 y5)) ∧ (∀ y0 y1 y2 y3 y4 y5 y6 y7 y8 y9, LeO (reelkeeperlaw11_RecordTells.l0 k y0 y1 y2 y3 y4 y5 y6 y7 y8 y9) (reelkeeperlaw11_RecordTells.l0 (k + 1) y0 y1 y2 y3 y4 y5 y6 y7 y8 y9))
  | 0 => ⟨fun _ _ _ _ _ _ r h => by simp [reelkeeperlaw11_RecordTells.j0] at h, fun _ _ _ _ _ _ _ _ _ _ r h => by simp [reelkeeperlaw11_RecordTells.l0] at h⟩
  | k + 1 => by
    obtain ⟨ih0, ih1⟩ := reelkeeperlaw11_RecordTells.mono_l k
    refine ⟨?_, ?_⟩
    · intro y0 y1 y2 y3 y4 y5
      unfold reelkeeperlaw11_RecordTells.j0
      repeat' first
      | (with_reducible exact ih0 _ _ _ _ _ _)
      | (with_reducible exact ih1 _ _ _ _ _ _ _ _ _ _)
      | (with_reducible exact reelkeeperlaw03_Few.mono _ _)
      | (with_reducible exact reelkeeperlaw11_FewRecs.mono _ _)
      | (with_reducible exact reelkeeperlaw11_awake.mono _)
      | (with_reducible exact reelkeeperref11_Blocks.mono _ _)
      | (with_reducible exact reelkeeperref11_Group.mono _ _ _)
      | (with_reducible exact reelkeeperref11_Many.mono _ _ _)
      | (with_reducible exact LeO.refl _)
      | (with_reducible exact LeO.none _)
      | (with_reducible refine LeO.ite ?_ ?_)
      | (with_reducible refine LeO.bind ?_ (fun _ => ?_))
      | exact ih0 _ _ _ _ _ _
      | exact ih1 _ _ _ _ _ _ _ _ _ _
      | exact reelkeeperlaw03_Few.mono _ _
      | exact reelkeeperlaw11_FewRecs.mono _ _
      | exact reelkeeperlaw11_awake.mono _
      | exact reelkeeperref11_Blocks.mono _ _
      | exact reelkeeperref11_Group.mono _ _ _
      | exact reelkeeperref11_Many.mono _ _ _
      | exact LeO.none _
      | refine LeO.ite ?_ ?_
      | refine LeO.bind ?_ (fun _ => ?_)
    · intro y0 y1 y2 y3 y4 y5 y6 y7 y8 y9
      unfold reelkeeperlaw11_RecordTells.l0
      repeat' first
      | (with_reducible exact ih0 _ _ _ _ _ _)
      | (with_reducible exact ih1 _ _ _ _ _ _ _ _ _ _)
      | (with_reducible exact reelkeeperlaw03_Few.mono _ _)
      | (with_reducible exact reelkeeperlaw11_FewRecs.mono _ _)
      | (with_reducible exact reelkeeperlaw11_awake.mono _)
      | (with_reducible exact reelkeeperref11_Blocks.mono _ _)
      | (with_reducible exact reelkeeperref11_Group.mono _ _ _)
      | (with_reducible exact reelkeeperref11_Many.mono _ _ _)
      | (with_reducible exact LeO.refl _)
      | (with_reducible exact LeO.none _)
      | (with_reducible refine LeO.ite ?_ ?_)
      | (with_reducible refine LeO.bind ?_ (fun _ => ?_))
      | exact ih0 _ _ _ _ _ _
      | exact ih1 _ _ _ _ _ _ _ _ _ _
      | exact reelkeeperlaw03_Few.mono _ _
      | exact reelkeeperlaw11_FewRecs.mono _ _
      | exact reelkeeperlaw11_awake.mono _
      | exact reelkeeperref11_Blocks.mono _ _
      | exact reelkeeperref11_Group.mono _ _ _
      | exact reelkeeperref11_Many.mono _ _ _
      | exact LeO.none _
      | refine LeO.ite ?_ ?_
      | refine LeO.bind ?_ (fun _ => ?_)
theorem reelkeeperlaw11_RecordTells.mono : ∀ a0 a1 a2 a3 k, LeO (reelkeeperlaw11_RecordTells.f k a0 a1 a2 a3) (reelkeeperlaw11_RecordTells.f (k + 1) a0 a1 a2 a3) := by
  intro a0 a1 a2 a3 k
  obtain ⟨ih0, ih1⟩ := reelkeeperlaw11_RecordTells.mono_l k
  unfold reelkeeperlaw11_RecordTells.f
  repeat' first
      | (with_reducible exact ih0 _ _ _ _ _ _)
      | (with_reducible exact ih1 _ _ _ _ _ _ _ _ _ _)
      | (with_reducible exact reelkeeperlaw03_Few.mono _ _)
      | (with_reducible exact reelkeeperlaw11_FewRecs.mono _ _)
      | (with_reducible exact reelkeeperlaw11_awake.mono _)
      | (with_reducible exact reelkeeperref11_Blocks.mono _ _)
      | (with_reducible exact reelkeeperref11_Group.mono _ _ _)
      | (with_reducible exact reelkeeperref11_Many.mono _ _ _)
      | (with_reducible exact LeO.refl _)
      | (with_reducible exact LeO.none _)
      | (with_reducible refine LeO.ite ?_ ?_)
      | (with_reducible refine LeO.bind ?_ (fun _ => ?_))
      | exact ih0 _ _ _ _ _ _
      | exact ih1 _ _ _ _ _ _ _ _ _ _
      | exact reelkeeperlaw03_Few.mono _ _
      | exact reelkeeperlaw11_FewRecs.mono _ _
      | exact reelkeeperlaw11_awake.mono _
      | exact reelkeeperref11_Blocks.mono _ _
      | exact reelkeeperref11_Group.mono _ _ _
      | exact reelkeeperref11_Many.mono _ _ _
      | exact LeO.none _
      | refine LeO.ite ?_ ?_
      | refine LeO.bind ?_ (fun _ => ?_)
set_option maxHeartbeats 8000000 in
set_option maxRecDepth 100000 in
theorem reelkeeperlaw11_RecordTells.calls (k : Nat) (A0 : Option Addr) (c0 : Nat) (l0 : List (List Int)) (a1 : Int) (A2 : Option Addr) (c2 : Nat) (l2 : List (List Int)) (a3 : Int) (r : Bool) (w : World) (hr0 : Kd.C (Kd.slice 5 (Kd.int .u8)) w A0 l0.length l0) (hc0 : l0.length ≤ c0) (hr2 : Kd.C (Kd.slice 5 (Kd.int .u8)) w A2 l2.length l2) (hc2 : l2.length ≤ c2) (h : reelkeeperlaw11_RecordTells.f k l0 a1 l2 a3 = some r) :
    Calls Try.prog 3 #[.slice A0 l0.length c0, .int .i64 a1, .slice A2 l2.length c2, .int .i64 a3] w fun e w' => e = .returned (.bool r) ∧ Below w.heap.size w w' := by
  have HR0 := Aside0.mk hr0
  have HC0 := Aside0.mk hc0
  clear hr0 hc0
  have HR2 := Aside0.mk hr2
  have HC2 := Aside0.mk hc2
  clear hr2 hc2
  have HB := Aside0.mk (Below.refl w.heap.size w)
  have H : ((reelkeeperlaw11_awake.f k).bind fun t152 => ((reelkeeperlaw03_Few.f k l0).bind fun t153 => ((reelkeeperlaw11_FewRecs.f k l2).bind fun t154 => (if t152 = true then (if t153 = true then (reelkeeperlaw11_RecordTells.j0 k l0 a1 l2 a3 t152 (!t154)) else (reelkeeperlaw11_RecordTells.j0 k l0 a1 l2 a3 t152 true)) else (reelkeeperlaw11_RecordTells.j0 k l0 a1 l2 a3 t152 true))))) = some r := h
  clear h
  replace H := Option.bind_eq_some_iff.mp H
  obtain ⟨t152, A50, H⟩ := H
  replace H : ((reelkeeperlaw03_Few.f k l0).bind fun t153 => ((reelkeeperlaw11_FewRecs.f k l2).bind fun t154 => (if t152 = true then (if t153 = true then (reelkeeperlaw11_RecordTells.j0 k l0 a1 l2 a3 t152 (!t154)) else (reelkeeperlaw11_RecordTells.j0 k l0 a1 l2 a3 t152 true)) else (reelkeeperlaw11_RecordTells.j0 k l0 a1 l2 a3 t152 true)))) = some r := H
  have A5 := Aside0.mk A50
  clear A50
  replace H := Option.bind_eq_some_iff.mp H
  obtain ⟨t153, A60, H⟩ := H
  replace H : ((reelkeeperlaw11_FewRecs.f k l2).bind fun t154 => (if t152 = true then (if t153 = true then (reelkeeperlaw11_RecordTells.j0 k l0 a1 l2 a3 t152 (!t154)) else (reelkeeperlaw11_RecordTells.j0 k l0 a1 l2 a3 t152 true)) else (reelkeeperlaw11_RecordTells.j0 k l0 a1 l2 a3 t152 true))) = some r := H
  have A6 := Aside0.mk A60
  clear A60
  replace H := Option.bind_eq_some_iff.mp H
  obtain ⟨t154, A70, H⟩ := H
  replace H : (if t152 = true then (if t153 = true then (reelkeeperlaw11_RecordTells.j0 k l0 a1 l2 a3 t152 (!t154)) else (reelkeeperlaw11_RecordTells.j0 k l0 a1 l2 a3 t152 true)) else (reelkeeperlaw11_RecordTells.j0 k l0 a1 l2 a3 t152 true)) = some r := H
  have A7 := Aside0.mk A70
  clear A70
  have HC8 := Aside0.mk H
  clear H
  go_enter Try.func3, Try.ntmps3
  go_upto_region 4 with (first | ((with_reducible refine gate_callee (f := 9) rfl ?_); refine goesL_ (some 24) rfl rfl Try.func9 (by kernel_rfl) rfl #[] rfl (by (try simp only [List.map_toArray, List.map_cons, List.map_nil]); first | done | rfl | (simp only [List.length_drop, List.length_take]; rfl)) ?_; (with_reducible refine (reelkeeperlaw11_awake.calls k  t152 _ A5.out).mono ?_); rintro e w9 ⟨rfl, hb⟩; refine ⟨_, rfl, ?_⟩; have n0_ := Aside0.mk (below_step (by repeat (first | (with_reducible first | exact HB.out | apply below_alloc | apply pw_below_drewN | apply below_drew1) | exact HB.out)) hb); clear HB; have HB := n0_; clear n0_; (try clear hb); (try clear hb2); (try clear hk); (try clear hi)) | ((with_reducible refine gate_callee (f := 10) rfl ?_); refine goesL_ (some 26) rfl rfl Try.func10 (by kernel_rfl) rfl #[.slice A0 l0.length c0] rfl (by (try simp only [List.map_toArray, List.map_cons, List.map_nil]); first | done | rfl | (simp only [List.length_drop, List.length_take]; rfl)) ?_; (with_reducible refine (reelkeeperlaw03_Few.calls k _ _ l0 t153 _ ?side1 ?side2 A6.out).mono ?_); (case side1 => repeat (first | exact (Kd.C_below HR0.out HB.out) | (with_reducible refine Kd.C_alloc ?_ _) | (with_reducible refine Kd.C_drewN ?_ _) | (with_reducible refine Kd.C_drew ?_))); (case side2 => exact HC0.out); rintro e w' ⟨rfl, ⟨nd, rfl⟩⟩; refine ⟨_, rfl, ?_⟩) | ((with_reducible refine gate_callee (f := 11) rfl ?_); refine goesL_ (some 28) rfl rfl Try.func11 (by kernel_rfl) rfl #[.slice A2 l2.length c2] rfl (by (try simp only [List.map_toArray, List.map_cons, List.map_nil]); first | done | rfl | (simp only [List.length_drop, List.length_take]; rfl)) ?_; (with_reducible refine (reelkeeperlaw11_FewRecs.calls k _ _ l2 t154 _ ?side1 ?side2 A7.out).mono ?_); (case side1 => repeat (first | exact (Kd.C_below HR2.out (by repeat (first | (with_reducible first | exact HB.out | apply below_alloc | apply pw_below_drewN | apply below_drew1) | exact HB.out))) | (with_reducible refine Kd.C_alloc ?_ _) | (with_reducible refine Kd.C_drewN ?_ _) | (with_reducible refine Kd.C_drew ?_))); (case side2 => exact HC2.out); rintro e w' ⟨rfl, ⟨nd, rfl⟩⟩; refine ⟨_, rfl, ?_⟩))
  (try simp only [Act.put, List.setIfInBounds_toArray, List.set_cons_zero, List.set_cons_succ])
  go_cut [38] (fun v38 wc => ∃ (kq : Nat) (x38_7 : Bool), v38 = .bool x38_7 ∧ Aside0 (reelkeeperlaw11_RecordTells.j0 kq l0 a1 l2 a3 t152 x38_7 = some r) ∧ Aside0 (kq ≤ k) ∧ Aside0 (Below w.heap.size w wc))
  case first =>
    have H := HC8.out
    clear HC8
    by_cases c10 : t152 = true
    · subst c10
      have H1 : (if t153 = true then (reelkeeperlaw11_RecordTells.j0 k l0 a1 l2 a3 true (!t154)) else (reelkeeperlaw11_RecordTells.j0 k l0 a1 l2 a3 true true)) = some r := by rw [if_pos rfl] at H; exact H
      clear H
      have H := H1
      clear H1
      by_cases c11 : t153 = true
      · subst c11
        have H1 : (reelkeeperlaw11_RecordTells.j0 k l0 a1 l2 a3 true (!t154)) = some r := by rw [if_pos rfl] at H; exact H
        clear H
        have H := H1
        clear H1
        have H' := Aside0.mk H
        clear H
        go_wp2
        go_meet
        case rel => exact ⟨_, (!t154), (by first | rfl | (simp; done) | (simp [*]; done)), H', ⟨by first | omega | exact Nat.le_refl _⟩, ⟨by repeat (first | (with_reducible first | exact HB.out | apply below_alloc | apply pw_below_drewN | apply below_drew1) | exact HB.out)⟩⟩
      · replace c11 := Bool.eq_false_iff.mpr c11
        subst c11
        have H1 : (reelkeeperlaw11_RecordTells.j0 k l0 a1 l2 a3 true true) = some r := by rw [if_neg (show ¬ (false = true) by decide)] at H; exact H
        clear H
        have H := H1
        clear H1
        have H' := Aside0.mk H
        clear H
        go_wp2
        go_meet
        case rel => exact ⟨_, (true), (by first | rfl | (simp; done) | (simp [*]; done)), H', ⟨by first | omega | exact Nat.le_refl _⟩, ⟨by repeat (first | (with_reducible first | exact HB.out | apply below_alloc | apply pw_below_drewN | apply below_drew1) | exact HB.out)⟩⟩
    · replace c10 := Bool.eq_false_iff.mpr c10
      subst c10
      have H1 : (reelkeeperlaw11_RecordTells.j0 k l0 a1 l2 a3 false true) = some r := by rw [if_neg (show ¬ (false = true) by decide)] at H; exact H
      clear H
      have H := H1
      clear H1
      have H' := Aside0.mk H
      clear H
      go_wp2
      go_meet
      case rel => exact ⟨_, (true), (by first | rfl | (simp; done) | (simp [*]; done)), H', ⟨by first | omega | exact Nat.le_refl _⟩, ⟨by repeat (first | (with_reducible first | exact HB.out | apply below_alloc | apply pw_below_drewN | apply below_drew1) | exact HB.out)⟩⟩
  case rest =>
    clear HC8
    try clear c1
    try clear c2
    try clear p2
    try clear c3
    try clear c9
    try clear c10
    try clear c11
    obtain ⟨kq, x38_7, rfl, HA, HJ7, HB⟩ := hcut
    cases kq with
    | zero => exact absurd HA.out (by simp [reelkeeperlaw11_RecordTells.j0])
    | succ kj7 =>
      have H := HA.out
      clear HA
      simp only [reelkeeperlaw11_RecordTells.j0] at H
      by_cases c12 : x38_7 = true
      · subst c12
        have H1 : (some t152) = some r := by rw [if_pos rfl] at H; exact H
        clear H
        have H := H1
        clear H1
        obtain rfl := Option.some.inj H
        go_wp2
        go_ret
        exact ⟨by first | rfl | (simp [errW_none, errW_some] <;> rfl) | (simp [*, errW_none, errW_some] <;> rfl), by repeat (first | (with_reducible first | exact HB.out | apply below_alloc | apply pw_below_drewN | apply below_drew1) | exact HB.out)⟩
      · replace c12 := Bool.eq_false_iff.mpr c12
        subst c12
        have H1 : ((record_Group.f l0 a1).bind fun bt155 => ((reelkeeperref11_Group.f kj7 l0 a1).bind fun bt159 => ((record_Blocks.f l2).bind fun bt163 => ((reelkeeperref11_Blocks.f kj7 l2).bind fun bt167 => ((reelkeeperref03_Same.f bt155.1 bt159.1).bind fun t171 => ((reelkeeperref03_Same.f bt163.1 bt167.1).bind fun t172 => (reelkeeperlaw11_RecordTells.l0 kj7 a1 l2 a3 bt155.2 bt159.2 bt163.2 bt167.2 t171 t172 0))))))) = some r := by rw [if_neg (show ¬ (false = true) by decide)] at H; exact H
        clear H
        have H := H1
        clear H1
        replace H := Option.bind_eq_some_iff.mp H
        obtain ⟨⟨t155, t156⟩, A130, H⟩ := H
        replace H : ((reelkeeperref11_Group.f kj7 l0 a1).bind fun bt159 => ((record_Blocks.f l2).bind fun bt163 => ((reelkeeperref11_Blocks.f kj7 l2).bind fun bt167 => ((reelkeeperref03_Same.f t155 bt159.1).bind fun t171 => ((reelkeeperref03_Same.f bt163.1 bt167.1).bind fun t172 => (reelkeeperlaw11_RecordTells.l0 kj7 a1 l2 a3 t156 bt159.2 bt163.2 bt167.2 t171 t172 0)))))) = some r := H
        have A13 := Aside0.mk A130
        clear A130
        replace H := Option.bind_eq_some_iff.mp H
        obtain ⟨⟨t159, t160⟩, A140, H⟩ := H
        replace H : ((record_Blocks.f l2).bind fun bt163 => ((reelkeeperref11_Blocks.f kj7 l2).bind fun bt167 => ((reelkeeperref03_Same.f t155 t159).bind fun t171 => ((reelkeeperref03_Same.f bt163.1 bt167.1).bind fun t172 => (reelkeeperlaw11_RecordTells.l0 kj7 a1 l2 a3 t156 t160 bt163.2 bt167.2 t171 t172 0))))) = some r := H
        have A14 := Aside0.mk A140
        clear A140
        replace H := Option.bind_eq_some_iff.mp H
        obtain ⟨⟨t163, t164⟩, A150, H⟩ := H
        replace H : ((reelkeeperref11_Blocks.f kj7 l2).bind fun bt167 => ((reelkeeperref03_Same.f t155 t159).bind fun t171 => ((reelkeeperref03_Same.f t163 bt167.1).bind fun t172 => (reelkeeperlaw11_RecordTells.l0 kj7 a1 l2 a3 t156 t160 t164 bt167.2 t171 t172 0)))) = some r := H
        have A15 := Aside0.mk A150
        clear A150
        replace H := Option.bind_eq_some_iff.mp H
        obtain ⟨⟨t167, t168⟩, A160, H⟩ := H
        replace H : ((reelkeeperref03_Same.f t155 t159).bind fun t171 => ((reelkeeperref03_Same.f t163 t167).bind fun t172 => (reelkeeperlaw11_RecordTells.l0 kj7 a1 l2 a3 t156 t160 t164 t168 t171 t172 0))) = some r := H
        have A16 := Aside0.mk A160
        clear A160
        replace H := Option.bind_eq_some_iff.mp H
        obtain ⟨t171, A170, H⟩ := H
        replace H : ((reelkeeperref03_Same.f t163 t167).bind fun t172 => (reelkeeperlaw11_RecordTells.l0 kj7 a1 l2 a3 t156 t160 t164 t168 t171 t172 0)) = some r := H
        have A17 := Aside0.mk A170
        clear A170
        replace H := Option.bind_eq_some_iff.mp H
        obtain ⟨t172, A180, H⟩ := H
        replace H : (reelkeeperlaw11_RecordTells.l0 kj7 a1 l2 a3 t156 t160 t164 t168 t171 t172 0) = some r := H
        have A18 := Aside0.mk A180
        clear A180
        have H' := Aside0.mk H
        clear H
        go_wp2_with (first | ((with_reducible refine gate_callee (f := 12) rfl ?_); refine goesL_ (some 43) rfl rfl Try.func12 (by kernel_rfl) rfl #[.slice A0 l0.length c0, .int .i64 a1] rfl (by (try simp only [List.map_toArray, List.map_cons, List.map_nil]); first | done | rfl | (simp only [List.length_drop, List.length_take]; rfl)) ?_; (with_reducible refine (record_Group.calls _ _ l0 a1 t155 t156 _ ?side1 ?side2 A13.out).mono ?_); (case side1 => repeat (first | exact (Kd.C_below HR0.out HB.out) | (with_reducible refine Kd.C_alloc ?_ _) | (with_reducible refine Kd.C_drewN ?_ _) | (with_reducible refine Kd.C_drew ?_))); (case side2 => exact HC0.out); rintro e w19 ⟨v157, rfl, ho0, hb⟩; refine ⟨_, rfl, ?_⟩; have n0_ := Aside0.mk (Kd.S_lower ho0 (below_size (by repeat (first | (with_reducible first | exact HB.out | apply below_alloc | apply pw_below_drewN | apply below_drew1) | exact HB.out)))); have n1_ := Aside0.mk (below_step (by repeat (first | (with_reducible first | exact HB.out | apply below_alloc | apply pw_below_drewN | apply below_drew1) | exact HB.out)) hb); clear HB; have HO158 := n0_; have HB := n1_; clear n0_ n1_; (try clear hb); (try clear hb2); (try clear hk); (try clear hi); (try clear ho0)) | ((with_reducible refine gate_callee (f := 13) rfl ?_); refine goesL_ (some 49) rfl rfl Try.func13 (by kernel_rfl) rfl #[.slice A0 l0.length c0, .int .i64 a1] rfl (by (try simp only [List.map_toArray, List.map_cons, List.map_nil]); first | done | rfl | (simp only [List.length_drop, List.length_take]; rfl)) ?_; (with_reducible refine (reelkeeperref11_Group.calls kj7 _ _ l0 a1 t159 t160 _ ?side1 ?side2 A14.out).mono ?_); (case side1 => repeat (first | exact (Kd.C_below HR0.out HB.out) | (with_reducible refine Kd.C_alloc ?_ _) | (with_reducible refine Kd.C_drewN ?_ _) | (with_reducible refine Kd.C_drew ?_))); (case side2 => exact HC0.out); rintro e w20 ⟨v161, rfl, ho0, hb⟩; refine ⟨_, rfl, ?_⟩; have n0_ := Aside0.mk (Kd.S_elder' (by (with_reducible repeat (first | apply Kd.S_alloc | apply Kd.S_drewN | apply Kd.S_drew)); exact HO158.out) (Kd.S_base ho0) hb); have n1_ := Aside0.mk (Kd.S_lower (Kd.S_new' ho0 (Kd.S_lt (by (with_reducible repeat (first | apply Kd.S_alloc | apply Kd.S_drewN | apply Kd.S_drew)); exact HO158.out))) (below_size (by repeat (first | (with_reducible first | exact HB.out | apply below_alloc | apply pw_below_drewN | apply below_drew1) | exact HB.out)))); have n2_ := Aside0.mk (below_step (by repeat (first | (with_reducible first | exact HB.out | apply below_alloc | apply pw_below_drewN | apply below_drew1) | exact HB.out)) hb); clear HO158; clear HB; have HO158 := n0_; have HO162 := n1_; have HB := n2_; clear n0_ n1_ n2_; (try clear hb); (try clear hb2); (try clear hk); (try clear hi); (try clear ho0)) | ((with_reducible refine gate_callee (f := 14) rfl ?_); refine goesL_ (some 54) rfl rfl Try.func14 (by kernel_rfl) rfl #[.slice A2 l2.length c2] rfl (by (try simp only [List.map_toArray, List.map_cons, List.map_nil]); first | done | rfl | (simp only [List.length_drop, List.length_take]; rfl)) ?_; (with_reducible refine (record_Blocks.calls _ _ l2 t163 t164 _ ?side1 ?side2 A15.out).mono ?_); (case side1 => repeat (first | exact (Kd.C_below HR2.out HB.out) | (with_reducible refine Kd.C_alloc ?_ _) | (with_reducible refine Kd.C_drewN ?_ _) | (with_reducible refine Kd.C_drew ?_))); (case side2 => exact HC2.out); rintro e w21 ⟨v165, rfl, ho0, hb⟩; refine ⟨_, rfl, ?_⟩; have n0_ := Aside0.mk (Kd.S_elder' (by (with_reducible repeat (first | apply Kd.S_alloc | apply Kd.S_drewN | apply Kd.S_drew)); exact HO158.out) (Kd.S_base ho0) hb); have n1_ := Aside0.mk (Kd.S_elder' (by (with_reducible repeat (first | apply Kd.S_alloc | apply Kd.S_drewN | apply Kd.S_drew)); exact HO162.out) (Kd.S_base ho0) hb); have n2_ := Aside0.mk (Kd.S_lower (Kd.S_new' (Kd.S_new' ho0 (Kd.S_lt (by (with_reducible repeat (first | apply Kd.S_alloc | apply Kd.S_drewN | apply Kd.S_drew)); exact HO158.out))) (Kd.S_lt (by (with_reducible repeat (first | apply Kd.S_alloc | apply Kd.S_drewN | apply Kd.S_drew)); exact HO162.out))) (below_size (by repeat (first | (with_reducible first | exact HB.out | apply below_alloc | apply pw_below_drewN | apply below_drew1) | exact HB.out)))); have n3_ := Aside0.mk (below_step (by repeat (first | (with_reducible first | exact HB.out | apply below_alloc | apply pw_below_drewN | apply below_drew1) | exact HB.out)) hb); clear HO158; clear HO162; clear HB; have HO158 := n0_; have HO162 := n1_; have HO166 := n2_; have HB := n3_; clear n0_ n1_ n2_ n3_; (try clear hb); (try clear hb2); (try clear hk); (try clear hi); (try clear ho0)) | ((with_reducible refine gate_callee (f := 15) rfl ?_); refine goesL_ (some 59) rfl rfl Try.func15 (by kernel_rfl) rfl #[.slice A2 l2.length c2] rfl (by (try simp only [List.map_toArray, List.map_cons, List.map_nil]); first | done | rfl | (simp only [List.length_drop, List.length_take]; rfl)) ?_; (with_reducible refine (reelkeeperref11_Blocks.calls kj7 _ _ l2 t167 t168 _ ?side1 ?side2 A16.out).mono ?_); (case side1 => repeat (first | exact (Kd.C_below HR2.out HB.out) | (with_reducible refine Kd.C_alloc ?_ _) | (with_reducible refine Kd.C_drewN ?_ _) | (with_reducible refine Kd.C_drew ?_))); (case side2 => exact HC2.out); rintro e w22 ⟨v169, rfl, ho0, hb⟩; refine ⟨_, rfl, ?_⟩; have n0_ := Aside0.mk (Kd.S_elder' (by (with_reducible repeat (first | apply Kd.S_alloc | apply Kd.S_drewN | apply Kd.S_drew)); exact HO158.out) (Kd.S_base ho0) hb); have n1_ := Aside0.mk (Kd.S_elder' (by (with_reducible repeat (first | apply Kd.S_alloc | apply Kd.S_drewN | apply Kd.S_drew)); exact HO162.out) (Kd.S_base ho0) hb); have n2_ := Aside0.mk (Kd.S_elder' (by (with_reducible repeat (first | apply Kd.S_alloc | apply Kd.S_drewN | apply Kd.S_drew)); exact HO166.out) (Kd.S_base ho0) hb); have n3_ := Aside0.mk (Kd.S_lower (Kd.S_new' (Kd.S_new' (Kd.S_new' ho0 (Kd.S_lt (by (with_reducible repeat (first | apply Kd.S_alloc | apply Kd.S_drewN | apply Kd.S_drew)); exact HO158.out))) (Kd.S_lt (by (with_reducible repeat (first | apply Kd.S_alloc | apply Kd.S_drewN | apply Kd.S_drew)); exact HO162.out))) (Kd.S_lt (by (with_reducible repeat (first | apply Kd.S_alloc | apply Kd.S_drewN | apply Kd.S_drew)); exact HO166.out))) (below_size (by repeat (first | (with_reducible first | exact HB.out | apply below_alloc | apply pw_below_drewN | apply below_drew1) | exact HB.out)))); have n4_ := Aside0.mk (below_step (by repeat (first | (with_reducible first | exact HB.out | apply below_alloc | apply pw_below_drewN | apply below_drew1) | exact HB.out)) hb); clear HO158; clear HO162; clear HO166; clear HB; have HO158 := n0_; have HO162 := n1_; have HO166 := n2_; have HO170 := n3_; have HB := n4_; clear n0_ n1_ n2_ n3_ n4_; (try clear hb); (try clear hb2); (try clear hk); (try clear hi); (try clear ho0); obtain ⟨Ao23, co23, eo23⟩ := Kd.S_slice HO158.out; subst eo23; obtain ⟨Ao24, co24, eo24⟩ := Kd.S_slice HO162.out; subst eo24) | ((with_reducible refine gate_callee (f := 16) rfl ?_); refine goesL_ (some 64) rfl rfl Try.func16 (by kernel_rfl) rfl #[.slice Ao23 t155.length co23, .slice Ao24 t159.length co24] rfl (by (try simp only [List.map_toArray, List.map_cons, List.map_nil]); first | done | rfl | (simp only [List.length_drop, List.length_take]; rfl)) ?_; (with_reducible refine (reelkeeperref03_Same.calls _ _ t155 _ _ t159 t171 _ ?side1 ?side2 ?side3 ?side4 A17.out).mono ?_); (case side1 => repeat (first | exact (Kd.S_reads' HO158.out).2.2 | (with_reducible refine Kd.C_alloc ?_ _) | (with_reducible refine Kd.C_drewN ?_ _) | (with_reducible refine Kd.C_drew ?_))); (case side2 => exact (Kd.S_reads' HO158.out).2.1); (case side3 => repeat (first | exact (Kd.S_reads' HO162.out).2.2 | (with_reducible refine Kd.C_alloc ?_ _) | (with_reducible refine Kd.C_drewN ?_ _) | (with_reducible refine Kd.C_drew ?_))); (case side4 => exact (Kd.S_reads' HO162.out).2.1); rintro e w' ⟨rfl, ⟨nd, rfl⟩⟩; refine ⟨_, rfl, ?_⟩; obtain ⟨Ao25, co25, eo25⟩ := Kd.S_slice HO166.out; subst eo25; obtain ⟨Ao26, co26, eo26⟩ := Kd.S_slice HO170.out; subst eo26) | ((with_reducible refine gate_callee (f := 16) rfl ?_); refine goesL_ (some 67) rfl rfl Try.func16 (by kernel_rfl) rfl #[.slice Ao25 t163.length co25, .slice Ao26 t167.length co26] rfl (by (try simp only [List.map_toArray, List.map_cons, List.map_nil]); first | done | rfl | (simp only [List.length_drop, List.length_take]; rfl)) ?_; (with_reducible refine (reelkeeperref03_Same.calls _ _ t163 _ _ t167 t172 _ ?side1 ?side2 ?side3 ?side4 A18.out).mono ?_); (case side1 => repeat (first | exact (Kd.S_reads' HO166.out).2.2 | (with_reducible refine Kd.C_alloc ?_ _) | (with_reducible refine Kd.C_drewN ?_ _) | (with_reducible refine Kd.C_drew ?_))); (case side2 => exact (Kd.S_reads' HO166.out).2.1); (case side3 => repeat (first | exact (Kd.S_reads' HO170.out).2.2 | (with_reducible refine Kd.C_alloc ?_ _) | (with_reducible refine Kd.C_drewN ?_ _) | (with_reducible refine Kd.C_drew ?_))); (case side4 => exact (Kd.S_reads' HO170.out).2.1); rintro e w' ⟨rfl, ⟨nd, rfl⟩⟩; refine ⟨_, rfl, ?_⟩))
        go_loopg [22] kj7 (fun kq v22 w' => ∃ (x22_2 : Int), v22 = .int .i64 x22_2 ∧ Aside0 (reelkeeperlaw11_RecordTells.l0 kq a1 l2 a3 t156 t160 t164 t168 t171 t172 x22_2 = some r) ∧ Aside0 (kq ≤ kj7) ∧ Aside0 (Below w.heap.size w w'))
        case atStart => exact ⟨(0), (by first | rfl | (simp; done) | (simp [*]; done)), H', ⟨Nat.le_refl _⟩, ⟨by repeat (first | (with_reducible first | exact HB.out | apply below_alloc | apply pw_below_drewN | apply below_drew1) | exact HB.out)⟩⟩
        case round =>
          clear H'
          try clear c1
          try clear c2
          try clear p2
          try clear c3
          try clear c9
          try clear c10
          try clear c11
          try clear c12
          try clear c13
          try clear c14
          try clear c15
          try clear c16
          try clear p2
          obtain ⟨x22_2, rfl, HA, HK2, HB⟩ := hrel
          cases gk with
          | zero => exact absurd HA.out (by simp [reelkeeperlaw11_RecordTells.l0])
          | succ k2 =>
            have H := HA.out
            clear HA
            simp only [reelkeeperlaw11_RecordTells.l0] at H
            by_cases c27 : x22_2 < (l2.length : Int)
            · rw [if_pos c27] at H
              have c27b0 : decide (x22_2 < (l2.length : Int)) = true := decide_eq_true c27
              clear c27
              by_cases c28 : 0 ≤ x22_2
              · rw [if_pos c28] at H
                have c28b0 : decide (0 ≤ x22_2) = true := decide_eq_true c28
                clear c28
                replace H := Option.bind_eq_some_iff.mp H
                obtain ⟨t176, A290, H⟩ := H
                replace H : ((record_May.f (rd_L1 l2 x22_2)).bind fun t178 => (if (t178 != t176) = true then (none) else (reelkeeperlaw11_RecordTells.l0 k2 a1 l2 a3 t156 t160 t164 t168 t171 t172 (wrap64 (x22_2 + 1))))) = some r := H
                have A29 := Aside0.mk A290
                clear A290
                replace H := Option.bind_eq_some_iff.mp H
                obtain ⟨t178, A300, H⟩ := H
                replace H : (if (t178 != t176) = true then (none) else (reelkeeperlaw11_RecordTells.l0 k2 a1 l2 a3 t156 t160 t164 t168 t171 t172 (wrap64 (x22_2 + 1)))) = some r := H
                have A30 := Aside0.mk A300
                clear A300
                by_cases c31 : (t178 != t176) = true
                · rw [if_pos c31] at H
                  exact absurd H (by simp)
                · rw [if_neg c31] at H
                  have c31b0 : (t178 != t176) = false := by simpa using c31
                  (try (have c31b1 : decide (t178 = t176) = true := by simpa using c31))
                  (try (have c31b2 : (t178 == t176) = true := by simpa using c31))
                  clear c31
                  have H' := Aside0.mk H
                  clear H
                  have p175 : 0 ≤ (x22_2 : Int) := of_decide_eq_true (by first | (with_reducible assumption) | assumption)
                  have q175 : x22_2 < (l2.length : Int) := of_decide_eq_true (by first | (with_reducible assumption) | assumption)
                  obtain ⟨ad175, A175_0, c175_0, e175, hx175_0, hl175_0, hi175_0⟩ := at_L1 HR2.out x22_2 p175 q175
                  cases e175
                  replace hx175_0 := (HB.out.cell (World.block_lt_of_cell? w _ hx175_0)).trans hx175_0
                  have HR175_0 := Aside0.mk hi175_0
                  have HC175_0 := Aside0.mk hl175_0
                  clear hi175_0 hl175_0
                  replace p175 := eq_true p175
                  replace q175 := eq_true q175
                  go_wp2_with (first | ((with_reducible refine gate_callee (f := 17) rfl ?_); refine goesL_ (some 78) rfl rfl Try.func17 (by kernel_rfl) rfl #[.slice A175_0 (rd_L1 l2 x22_2).length c175_0] rfl (by (try simp only [List.map_toArray, List.map_cons, List.map_nil]); first | done | rfl | (simp only [List.length_drop, List.length_take]; rfl)) ?_; (with_reducible refine (reelkeeperref11_May.calls _ _ (rd_L1 l2 x22_2) t176 _ ?side1 ?side2 A29.out).mono ?_); (case side1 => repeat (first | exact (Kd.C_below HR175_0.out HB.out) | (with_reducible refine Kd.C_alloc ?_ _) | (with_reducible refine Kd.C_drewN ?_ _) | (with_reducible refine Kd.C_drew ?_))); (case side2 => exact HC175_0.out); rintro e w' ⟨rfl, ⟨nd, rfl⟩⟩; refine ⟨_, rfl, ?_⟩; have p177 : 0 ≤ (x22_2 : Int) := of_decide_eq_true (by first | (with_reducible assumption) | assumption); have q177 : x22_2 < (l2.length : Int) := of_decide_eq_true (by first | (with_reducible assumption) | assumption); obtain ⟨ad177, A177_0, c177_0, e177, hx177_0, hl177_0, hi177_0⟩ := at_L1 HR2.out x22_2 p177 q177; obtain rfl : ad175 = ad177 := (by injection e177); replace hx177_0 := (HB.out.cell (World.block_lt_of_cell? w _ hx177_0)).trans hx177_0; have HR177_0 := Aside0.mk hi177_0; have HC177_0 := Aside0.mk hl177_0; clear hi177_0 hl177_0; replace p177 := eq_true p177; replace q177 := eq_true q177; have ea_ := Option.some.inj (hx175_0.symm.trans hx177_0); injection ea_ with ea_ en_ ec_; subst ea_; subst ec_; clear en_) | ((with_reducible refine gate_callee (f := 18) rfl ?_); refine goesL_ (some 83) rfl rfl Try.func18 (by kernel_rfl) rfl #[.slice A175_0 (rd_L1 l2 x22_2).length c175_0] rfl (by (try simp only [List.map_toArray, List.map_cons, List.map_nil]); first | done | rfl | (simp only [List.length_drop, List.length_take]; rfl)) ?_; (with_reducible refine (record_May.calls _ _ (rd_L1 l2 x22_2) t178 _ ?side1 ?side2 A30.out).mono ?_); (case side1 => repeat (first | exact (Kd.C_below HR177_0.out (by repeat (first | (with_reducible first | exact HB.out | apply below_alloc | apply pw_below_drewN | apply below_drew1) | exact HB.out))) | (with_reducible refine Kd.C_alloc ?_ _) | (with_reducible refine Kd.C_drewN ?_ _) | (with_reducible refine Kd.C_drew ?_))); (case side2 => exact HC177_0.out); rintro e w' ⟨rfl, ⟨nd, rfl⟩⟩; refine ⟨_, rfl, ?_⟩))
                  go_roundg k2
                  case measure => have := HJ7.out; have := HK2.out; omega
                  case rel => exact ⟨(wrap64 (x22_2 + 1)), (by first | rfl | (simp; done) | (simp [*]; done)), H', ⟨by have := HJ7.out; have := HK2.out; omega⟩, ⟨by repeat (first | (with_reducible first | exact HB.out | apply below_alloc | apply pw_below_drewN | apply below_drew1) | exact HB.out)⟩⟩
              · rw [if_neg c28] at H
                exact absurd H (by simp)
            · rw [if_neg c27] at H
              have c27b0 : decide (x22_2 < (l2.length : Int)) = false := decide_eq_false c27
              clear c27
              by_cases c32 : t171 = true
              · subst c32
                have H1 : (if (t156 == t160) = true then (if t172 = true then (if (t164 == t168) = true then ((record_Many.f a3 a1).bind fun t173 => ((reelkeeperref11_Many.f k2 a3 a1).bind fun t174 => (some (t173 == t174)))) else (none)) else (none)) else (none)) = some r := by rw [if_pos rfl] at H; exact H
                clear H
                have H := H1
                clear H1
                by_cases c33 : (t156 == t160) = true
                · rw [if_pos c33] at H
                  have c33b0 : (t156 == t160) = true := c33
                  (try (have c33b1 : decide (t156 = t160) = true := by simpa using c33))
                  (try (have c33b2 : (t156 == t160) = true := by simpa using c33))
                  clear c33
                  by_cases c34 : t172 = true
                  · subst c34
                    have H1 : (if (t164 == t168) = true then ((record_Many.f a3 a1).bind fun t173 => ((reelkeeperref11_Many.f k2 a3 a1).bind fun t174 => (some (t173 == t174)))) else (none)) = some r := by rw [if_pos rfl] at H; exact H
                    clear H
                    have H := H1
                    clear H1
                    by_cases c35 : (t164 == t168) = true
                    · rw [if_pos c35] at H
                      have c35b0 : (t164 == t168) = true := c35
                      (try (have c35b1 : decide (t164 = t168) = true := by simpa using c35))
                      (try (have c35b2 : (t164 == t168) = true := by simpa using c35))
                      clear c35
                      replace H := Option.bind_eq_some_iff.mp H
                      obtain ⟨t173, A360, H⟩ := H
                      replace H : ((reelkeeperref11_Many.f k2 a3 a1).bind fun t174 => (some (t173 == t174))) = some r := H
                      have A36 := Aside0.mk A360
                      clear A360
                      replace H := Option.bind_eq_some_iff.mp H
                      obtain ⟨t174, A370, H⟩ := H
                      replace H : (some (t173 == t174)) = some r := H
                      have A37 := Aside0.mk A370
                      clear A370
                      obtain rfl := Option.some.inj H
                      go_wp2_with (first | (go_at_call 19; (with_reducible refine (record_Many.calls a3 a1 t173 _ A36.out).mono ?_); rintro e w' ⟨rfl, ⟨nd, rfl⟩⟩) | (go_at_call 20; (with_reducible refine (reelkeeperref11_Many.calls k2 a3 a1 t174 _ A37.out).mono ?_); rintro e w' ⟨rfl, ⟨nd, rfl⟩⟩))
                      go_ret
                      exact ⟨by first | rfl | (simp [errW_none, errW_some] <;> rfl) | (simp [*, errW_none, errW_some] <;> rfl), by repeat (first | (with_reducible first | exact HB.out | apply below_alloc | apply pw_below_drewN | apply below_drew1) | exact HB.out)⟩
                    · rw [if_neg c35] at H
                      exact absurd H (by simp)
                  · replace c34 := Bool.eq_false_iff.mpr c34
                    subst c34
                    have H1 : (none) = some r := by rw [if_neg (show ¬ (false = true) by decide)] at H; exact H
                    clear H
                    have H := H1
                    clear H1
                    exact absurd H (by simp)
                · rw [if_neg c33] at H
                  exact absurd H (by simp)
              · replace c32 := Bool.eq_false_iff.mpr c32
                subst c32
                have H1 : (none) = some r := by rw [if_neg (show ¬ (false = true) by decide)] at H; exact H
                clear H
                have H := H1
                clear H1
                exact absurd H (by simp)

end Go.Proofs.Ytckoafndhccomaa.M
