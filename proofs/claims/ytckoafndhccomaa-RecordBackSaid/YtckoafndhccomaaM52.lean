/- Part of a claim: what some functions of the program compute, each with its contract; no condition of its own. Written by a program of this workplace (gen.py, over the print of the kit) and by hand. -/
import Derived.Test.YtckoafndhccomaaM0
import Derived.Test.YtckoafndhccomaaM14
import Derived.Test.YtckoafndhccomaaM21
import Derived.Test.YtckoafndhccomaaM25
import Derived.Test.YtckoafndhccomaaM26
import Derived.Test.YtckoafndhccomaaM30
import Derived.Test.YtckoafndhccomaaM32
import Derived.Test.YtckoafndhccomaaM42
import Derived.Test.YtckoafndhccomaaM50
namespace Go.Proofs.Ytckoafndhccomaa.M
open Go.RowKit Go.Proofs.YtckoafndhccomaaW.PrintWords Go.Proofs.YtckoafndhccomaaW.PrintLast Go.Proofs.YtckoafndhccomaaW.PrintMore
attribute [local go_sem] max2_int min2_int max_two min_two max_three min_three max_four min_four   -- for this text's walks alone
set_option linter.unusedVariables false
set_option linter.unusedSimpArgs false

/-! ### reelkeeperlaw11_RecordBack: function 8 -/
mutual
def reelkeeperlaw11_RecordBack.j0 : Nat → List (List Int) → Int → Bool → Bool → Option (Bool)
  | 0, _, _, _, _ => none
  | k + 1, x0, x1, x5, x21 => if x21 = true then (some x5) else ((record_Group.f x0 x1).bind fun bt244 => (if bt244.2 = true then ((record_Blocks.f bt244.1).bind fun bt249 => (if bt249.2 = true then ((record_Many.f (x0.length : Int) x1).bind fun t253 => (if (bt244.1.length : Int) = t253 then (if (bt249.1.length : Int) = (wrap64 (x1 * (bt244.1.length : Int))) then (if (bt249.1.length : Int) < (x0.length : Int) then (reelkeeperlaw11_RecordBack.j1 k x0 bt249.1 true) else (reelkeeperlaw11_RecordBack.j1 k x0 bt249.1 (decide ((wrap64 ((bt249.1.length : Int) - (x0.length : Int))) ≥ x1)))) else (reelkeeperlaw11_RecordBack.j1 k x0 bt249.1 true)) else (reelkeeperlaw11_RecordBack.j1 k x0 bt249.1 true))) else (reelkeeperlaw11_RecordBack.j1 k x0 bt249.1 true))) else (if (bt244.1.length : Int) = 0 then ((block_May.f x0).bind fun t248 => (if t248 = true then (if x1 < 1 then (some true) else (some (decide (x1 > 20)))) else (some true))) else (none))))
def reelkeeperlaw11_RecordBack.j1 : Nat → List (List Int) → List (List Int) → Bool → Option (Bool)
  | 0, _, _, _ => none
  | k + 1, x0, x9, x87 => if x87 = true then (none) else (reelkeeperlaw11_RecordBack.l0 k x0 x9 (x0.length : Int))
def reelkeeperlaw11_RecordBack.l0 : Nat → List (List Int) → List (List Int) → Int → Option (Bool)
  | 0, _, _, _ => none
  | k + 1, x0, x9, x11 => if x11 < (x9.length : Int) then (if 0 ≤ x11 then ((block_Zero.f (rd_L1 x9 x11)).bind fun t255 => (if t255 = true then (reelkeeperlaw11_RecordBack.l0 k x0 x9 (wrap64 (x11 + 1))) else (none))) else (none)) else (if 0 ≤ (x0.length : Int) then (if (x0.length : Int) ≤ (x9.length : Int) then ((reelkeeperref03_Same.f (x9.take ((x0.length : Int) : Int).toNat) x0).bind fun t260 => (some t260)) else (none)) else (none))
end
def reelkeeperlaw11_RecordBack.f (k : Nat) (l0 : List (List Int)) (a1 : Int) : Option (Bool) := (reelkeeperlaw11_awake.f k).bind fun t242 => ((reelkeeperlaw03_Few.f k l0).bind fun t243 => (if t242 = true then (reelkeeperlaw11_RecordBack.j0 k l0 a1 t242 (!t243)) else (reelkeeperlaw11_RecordBack.j0 k l0 a1 t242 true)))
theorem reelkeeperlaw11_RecordBack.mono_l : ∀ k, (∀ y0 y1 y2 y3, LeO (reelkeeperlaw11_RecordBack.j0 k y0 y1 y2 y3) (reelkeeperlaw11_RecordBack.j0 (k + 1) y0 y1 y2 y3)) ∧ (∀ y0 y1 y2, LeO (reelkeeperlaw11_RecordBack.j1 k y0 y1 y2) (reelkeeperlaw11_RecordBack.j1 (k + 1) y0 y1 y2)) ∧ (∀ y0 y1 y2, LeO (reelkeeperlaw11_RecordBack.l0 k y0 y1 y2) (reelkeeperlaw11_RecordBack.l0 (k + 1) y0 y1 y2))
  | 0 => ⟨fun _ _ _ _ r h => by simp [reelkeeperlaw11_RecordBack.j0] at h, fun _ _ _ r h => by simp [reelkeeperlaw11_RecordBack.j1] at h, fun _ _ _ r h => by simp [reelkeeperlaw11_RecordBack.l0] at h⟩
  | k + 1 => by
    obtain ⟨ih0, ih1, ih2⟩ := reelkeeperlaw11_RecordBack.mono_l k
    refine ⟨?_, ?_, ?_⟩
    · intro y0 y1 y2 y3
      unfold reelkeeperlaw11_RecordBack.j0
      repeat' first
      | (with_reducible exact ih0 _ _ _ _)
      | (with_reducible exact ih1 _ _ _)
      | (with_reducible exact ih2 _ _ _)
      | (with_reducible exact reelkeeperlaw03_Few.mono _ _)
      | (with_reducible exact reelkeeperlaw11_awake.mono _)
      | (with_reducible exact LeO.refl _)
      | (with_reducible exact LeO.none _)
      | (with_reducible refine LeO.ite ?_ ?_)
      | (with_reducible refine LeO.bind ?_ (fun _ => ?_))
      | exact ih0 _ _ _ _
      | exact ih1 _ _ _
      | exact ih2 _ _ _
      | exact reelkeeperlaw03_Few.mono _ _
      | exact reelkeeperlaw11_awake.mono _
      | exact LeO.none _
      | refine LeO.ite ?_ ?_
      | refine LeO.bind ?_ (fun _ => ?_)
    · intro y0 y1 y2
      unfold reelkeeperlaw11_RecordBack.j1
      repeat' first
      | (with_reducible exact ih0 _ _ _ _)
      | (with_reducible exact ih1 _ _ _)
      | (with_reducible exact ih2 _ _ _)
      | (with_reducible exact reelkeeperlaw03_Few.mono _ _)
      | (with_reducible exact reelkeeperlaw11_awake.mono _)
      | (with_reducible exact LeO.refl _)
      | (with_reducible exact LeO.none _)
      | (with_reducible refine LeO.ite ?_ ?_)
      | (with_reducible refine LeO.bind ?_ (fun _ => ?_))
      | exact ih0 _ _ _ _
      | exact ih1 _ _ _
      | exact ih2 _ _ _
      | exact reelkeeperlaw03_Few.mono _ _
      | exact reelkeeperlaw11_awake.mono _
      | exact LeO.none _
      | refine LeO.ite ?_ ?_
      | refine LeO.bind ?_ (fun _ => ?_)
    · intro y0 y1 y2
      unfold reelkeeperlaw11_RecordBack.l0
      repeat' first
      | (with_reducible exact ih0 _ _ _ _)
      | (with_reducible exact ih1 _ _ _)
      | (with_reducible exact ih2 _ _ _)
      | (with_reducible exact reelkeeperlaw03_Few.mono _ _)
      | (with_reducible exact reelkeeperlaw11_awake.mono _)
      | (with_reducible exact LeO.refl _)
      | (with_reducible exact LeO.none _)
      | (with_reducible refine LeO.ite ?_ ?_)
      | (with_reducible refine LeO.bind ?_ (fun _ => ?_))
      | exact ih0 _ _ _ _
      | exact ih1 _ _ _
      | exact ih2 _ _ _
      | exact reelkeeperlaw03_Few.mono _ _
      | exact reelkeeperlaw11_awake.mono _
      | exact LeO.none _
      | refine LeO.ite ?_ ?_
      | refine LeO.bind ?_ (fun _ => ?_)
theorem reelkeeperlaw11_RecordBack.mono : ∀ a0 a1 k, LeO (reelkeeperlaw11_RecordBack.f k a0 a1) (reelkeeperlaw11_RecordBack.f (k + 1) a0 a1) := by
  intro a0 a1 k
  obtain ⟨ih0, ih1, ih2⟩ := reelkeeperlaw11_RecordBack.mono_l k
  unfold reelkeeperlaw11_RecordBack.f
  repeat' first
      | (with_reducible exact ih0 _ _ _ _)
      | (with_reducible exact ih1 _ _ _)
      | (with_reducible exact ih2 _ _ _)
      | (with_reducible exact reelkeeperlaw03_Few.mono _ _)
      | (with_reducible exact reelkeeperlaw11_awake.mono _)
      | (with_reducible exact LeO.refl _)
      | (with_reducible exact LeO.none _)
      | (with_reducible refine LeO.ite ?_ ?_)
      | (with_reducible refine LeO.bind ?_ (fun _ => ?_))
      | exact ih0 _ _ _ _
      | exact ih1 _ _ _
      | exact ih2 _ _ _
      | exact reelkeeperlaw03_Few.mono _ _
      | exact reelkeeperlaw11_awake.mono _
      | exact LeO.none _
      | refine LeO.ite ?_ ?_
      | refine LeO.bind ?_ (fun _ => ?_)
set_option maxHeartbeats 8000000 in
set_option maxRecDepth 100000 in
theorem reelkeeperlaw11_RecordBack.calls (k : Nat) (A0 : Option Addr) (c0 : Nat) (l0 : List (List Int)) (a1 : Int) (r : Bool) (w : World) (hr0 : Kd.C (Kd.slice 5 (Kd.int .u8)) w A0 l0.length l0) (hc0 : l0.length ≤ c0) (h : reelkeeperlaw11_RecordBack.f k l0 a1 = some r) :
    Calls Try.prog 8 #[.slice A0 l0.length c0, .int .i64 a1] w fun e w' => e = .returned (.bool r) ∧ Below w.heap.size w w' := by
  have HR0 := Aside0.mk hr0
  have HC0 := Aside0.mk hc0
  clear hr0 hc0
  have HB := Aside0.mk (Below.refl w.heap.size w)
  have H : ((reelkeeperlaw11_awake.f k).bind fun t242 => ((reelkeeperlaw03_Few.f k l0).bind fun t243 => (if t242 = true then (reelkeeperlaw11_RecordBack.j0 k l0 a1 t242 (!t243)) else (reelkeeperlaw11_RecordBack.j0 k l0 a1 t242 true)))) = some r := h
  clear h
  replace H := Option.bind_eq_some_iff.mp H
  obtain ⟨t242, A30, H⟩ := H
  replace H : ((reelkeeperlaw03_Few.f k l0).bind fun t243 => (if t242 = true then (reelkeeperlaw11_RecordBack.j0 k l0 a1 t242 (!t243)) else (reelkeeperlaw11_RecordBack.j0 k l0 a1 t242 true))) = some r := H
  have A3 := Aside0.mk A30
  clear A30
  replace H := Option.bind_eq_some_iff.mp H
  obtain ⟨t243, A40, H⟩ := H
  replace H : (if t242 = true then (reelkeeperlaw11_RecordBack.j0 k l0 a1 t242 (!t243)) else (reelkeeperlaw11_RecordBack.j0 k l0 a1 t242 true)) = some r := H
  have A4 := Aside0.mk A40
  clear A40
  have HC5 := Aside0.mk H
  clear H
  go_enter Try.func8, Try.ntmps8
  go_upto_region 3 with (first | ((with_reducible refine gate_callee (f := 9) rfl ?_); refine goesL_ (some 13) rfl rfl Try.func9 (by kernel_rfl) rfl #[] rfl (by (try simp only [List.map_toArray, List.map_cons, List.map_nil]); first | done | rfl | (simp only [List.length_drop, List.length_take]; rfl)) ?_; (with_reducible refine (reelkeeperlaw11_awake.calls k  t242 _ A3.out).mono ?_); rintro e w6 ⟨rfl, hb⟩; refine ⟨_, rfl, ?_⟩; have n0_ := Aside0.mk (below_step (by repeat (first | (with_reducible first | exact HB.out | apply below_alloc | apply pw_below_drewN | apply below_drew1) | exact HB.out)) hb); clear HB; have HB := n0_; clear n0_; (try clear hb); (try clear hb2); (try clear hk); (try clear hi)) | ((with_reducible refine gate_callee (f := 10) rfl ?_); refine goesL_ (some 15) rfl rfl Try.func10 (by kernel_rfl) rfl #[.slice A0 l0.length c0] rfl (by (try simp only [List.map_toArray, List.map_cons, List.map_nil]); first | done | rfl | (simp only [List.length_drop, List.length_take]; rfl)) ?_; (with_reducible refine (reelkeeperlaw03_Few.calls k _ _ l0 t243 _ ?side1 ?side2 A4.out).mono ?_); (case side1 => repeat (first | exact (Kd.C_below HR0.out HB.out) | (with_reducible refine Kd.C_alloc ?_ _) | (with_reducible refine Kd.C_drewN ?_ _) | (with_reducible refine Kd.C_drew ?_))); (case side2 => exact HC0.out); rintro e w' ⟨rfl, ⟨nd, rfl⟩⟩; refine ⟨_, rfl, ?_⟩))
  (try simp only [Act.put, List.setIfInBounds_toArray, List.set_cons_zero, List.set_cons_succ])
  go_cut [21] (fun v21 wc => ∃ (kq : Nat) (x21_4 : Bool), v21 = .bool x21_4 ∧ Aside0 (reelkeeperlaw11_RecordBack.j0 kq l0 a1 t242 x21_4 = some r) ∧ Aside0 (kq ≤ k) ∧ Aside0 (Below w.heap.size w wc))
  case first =>
    have H := HC5.out
    clear HC5
    by_cases c7 : t242 = true
    · subst c7
      have H1 : (reelkeeperlaw11_RecordBack.j0 k l0 a1 true (!t243)) = some r := by rw [if_pos rfl] at H; exact H
      clear H
      have H := H1
      clear H1
      have H' := Aside0.mk H
      clear H
      go_wp2
      go_meet
      case rel => exact ⟨_, (!t243), (by first | rfl | (simp; done) | (simp [*]; done)), H', ⟨by first | omega | exact Nat.le_refl _⟩, ⟨by repeat (first | (with_reducible first | exact HB.out | apply below_alloc | apply pw_below_drewN | apply below_drew1) | exact HB.out)⟩⟩
    · replace c7 := Bool.eq_false_iff.mpr c7
      subst c7
      have H1 : (reelkeeperlaw11_RecordBack.j0 k l0 a1 false true) = some r := by rw [if_neg (show ¬ (false = true) by decide)] at H; exact H
      clear H
      have H := H1
      clear H1
      have H' := Aside0.mk H
      clear H
      go_wp2
      go_meet
      case rel => exact ⟨_, (true), (by first | rfl | (simp; done) | (simp [*]; done)), H', ⟨by first | omega | exact Nat.le_refl _⟩, ⟨by repeat (first | (with_reducible first | exact HB.out | apply below_alloc | apply pw_below_drewN | apply below_drew1) | exact HB.out)⟩⟩
  case rest =>
    clear HC5
    try clear c1
    try clear p2
    try clear c7
    obtain ⟨kq, x21_4, rfl, HA, HJ4, HB⟩ := hcut
    cases kq with
    | zero => exact absurd HA.out (by simp [reelkeeperlaw11_RecordBack.j0])
    | succ kj4 =>
      have H := HA.out
      clear HA
      simp only [reelkeeperlaw11_RecordBack.j0] at H
      by_cases c8 : x21_4 = true
      · subst c8
        have H1 : (some t242) = some r := by rw [if_pos rfl] at H; exact H
        clear H
        have H := H1
        clear H1
        obtain rfl := Option.some.inj H
        go_wp2
        go_ret
        exact ⟨by first | rfl | (simp [errW_none, errW_some] <;> rfl) | (simp [*, errW_none, errW_some] <;> rfl), by repeat (first | (with_reducible first | exact HB.out | apply below_alloc | apply pw_below_drewN | apply below_drew1) | exact HB.out)⟩
      · replace c8 := Bool.eq_false_iff.mpr c8
        subst c8
        have H1 : ((record_Group.f l0 a1).bind fun bt244 => (if bt244.2 = true then ((record_Blocks.f bt244.1).bind fun bt249 => (if bt249.2 = true then ((record_Many.f (l0.length : Int) a1).bind fun t253 => (if (bt244.1.length : Int) = t253 then (if (bt249.1.length : Int) = (wrap64 (a1 * (bt244.1.length : Int))) then (if (bt249.1.length : Int) < (l0.length : Int) then (reelkeeperlaw11_RecordBack.j1 kj4 l0 bt249.1 true) else (reelkeeperlaw11_RecordBack.j1 kj4 l0 bt249.1 (decide ((wrap64 ((bt249.1.length : Int) - (l0.length : Int))) ≥ a1)))) else (reelkeeperlaw11_RecordBack.j1 kj4 l0 bt249.1 true)) else (reelkeeperlaw11_RecordBack.j1 kj4 l0 bt249.1 true))) else (reelkeeperlaw11_RecordBack.j1 kj4 l0 bt249.1 true))) else (if (bt244.1.length : Int) = 0 then ((block_May.f l0).bind fun t248 => (if t248 = true then (if a1 < 1 then (some true) else (some (decide (a1 > 20)))) else (some true))) else (none)))) = some r := by rw [if_neg (show ¬ (false = true) by decide)] at H; exact H
        clear H
        have H := H1
        clear H1
        replace H := Option.bind_eq_some_iff.mp H
        obtain ⟨⟨t244, t245⟩, A90, H⟩ := H
        replace H : (if t245 = true then ((record_Blocks.f t244).bind fun bt249 => (if bt249.2 = true then ((record_Many.f (l0.length : Int) a1).bind fun t253 => (if (t244.length : Int) = t253 then (if (bt249.1.length : Int) = (wrap64 (a1 * (t244.length : Int))) then (if (bt249.1.length : Int) < (l0.length : Int) then (reelkeeperlaw11_RecordBack.j1 kj4 l0 bt249.1 true) else (reelkeeperlaw11_RecordBack.j1 kj4 l0 bt249.1 (decide ((wrap64 ((bt249.1.length : Int) - (l0.length : Int))) ≥ a1)))) else (reelkeeperlaw11_RecordBack.j1 kj4 l0 bt249.1 true)) else (reelkeeperlaw11_RecordBack.j1 kj4 l0 bt249.1 true))) else (reelkeeperlaw11_RecordBack.j1 kj4 l0 bt249.1 true))) else (if (t244.length : Int) = 0 then ((block_May.f l0).bind fun t248 => (if t248 = true then (if a1 < 1 then (some true) else (some (decide (a1 > 20)))) else (some true))) else (none))) = some r := H
        have A9 := Aside0.mk A90
        clear A90
        by_cases c10 : t245 = true
        · subst c10
          have H1 : ((record_Blocks.f t244).bind fun bt249 => (if bt249.2 = true then ((record_Many.f (l0.length : Int) a1).bind fun t253 => (if (t244.length : Int) = t253 then (if (bt249.1.length : Int) = (wrap64 (a1 * (t244.length : Int))) then (if (bt249.1.length : Int) < (l0.length : Int) then (reelkeeperlaw11_RecordBack.j1 kj4 l0 bt249.1 true) else (reelkeeperlaw11_RecordBack.j1 kj4 l0 bt249.1 (decide ((wrap64 ((bt249.1.length : Int) - (l0.length : Int))) ≥ a1)))) else (reelkeeperlaw11_RecordBack.j1 kj4 l0 bt249.1 true)) else (reelkeeperlaw11_RecordBack.j1 kj4 l0 bt249.1 true))) else (reelkeeperlaw11_RecordBack.j1 kj4 l0 bt249.1 true))) = some r := by rw [if_pos rfl] at H; exact H
          clear H
          have H := H1
          clear H1
          replace H := Option.bind_eq_some_iff.mp H
          obtain ⟨⟨t249, t250⟩, A110, H⟩ := H
          replace H : (if t250 = true then ((record_Many.f (l0.length : Int) a1).bind fun t253 => (if (t244.length : Int) = t253 then (if (t249.length : Int) = (wrap64 (a1 * (t244.length : Int))) then (if (t249.length : Int) < (l0.length : Int) then (reelkeeperlaw11_RecordBack.j1 kj4 l0 t249 true) else (reelkeeperlaw11_RecordBack.j1 kj4 l0 t249 (decide ((wrap64 ((t249.length : Int) - (l0.length : Int))) ≥ a1)))) else (reelkeeperlaw11_RecordBack.j1 kj4 l0 t249 true)) else (reelkeeperlaw11_RecordBack.j1 kj4 l0 t249 true))) else (reelkeeperlaw11_RecordBack.j1 kj4 l0 t249 true)) = some r := H
          have A11 := Aside0.mk A110
          clear A110
          have HC12 := Aside0.mk H
          clear H
          go_upto_region 9 with (first | ((with_reducible refine gate_callee (f := 12) rfl ?_); refine goesL_ (some 26) rfl rfl Try.func12 (by kernel_rfl) rfl #[.slice A0 l0.length c0, .int .i64 a1] rfl (by (try simp only [List.map_toArray, List.map_cons, List.map_nil]); first | done | rfl | (simp only [List.length_drop, List.length_take]; rfl)) ?_; (with_reducible refine (record_Group.calls _ _ l0 a1 t244 true _ ?side1 ?side2 A9.out).mono ?_); (case side1 => repeat (first | exact (Kd.C_below HR0.out HB.out) | (with_reducible refine Kd.C_alloc ?_ _) | (with_reducible refine Kd.C_drewN ?_ _) | (with_reducible refine Kd.C_drew ?_))); (case side2 => exact HC0.out); rintro e w13 ⟨v246, rfl, ho0, hb⟩; refine ⟨_, rfl, ?_⟩; have n0_ := Aside0.mk (Kd.S_lower ho0 (below_size (by repeat (first | (with_reducible first | exact HB.out | apply below_alloc | apply pw_below_drewN | apply below_drew1) | exact HB.out)))); have n1_ := Aside0.mk (below_step (by repeat (first | (with_reducible first | exact HB.out | apply below_alloc | apply pw_below_drewN | apply below_drew1) | exact HB.out)) hb); clear HB; have HO247 := n0_; have HB := n1_; clear n0_ n1_; (try clear hb); (try clear hb2); (try clear hk); (try clear hi); (try clear ho0); obtain ⟨Ao14, co14, eo14⟩ := Kd.S_slice HO247.out; subst eo14) | ((with_reducible refine gate_callee (f := 14) rfl ?_); refine goesL_ (some 49) rfl rfl Try.func14 (by kernel_rfl) rfl #[.slice Ao14 t244.length co14] rfl (by (try simp only [List.map_toArray, List.map_cons, List.map_nil]); first | done | rfl | (simp only [List.length_drop, List.length_take]; rfl)) ?_; (with_reducible refine (record_Blocks.calls _ _ t244 t249 t250 _ ?side1 ?side2 A11.out).mono ?_); (case side1 => repeat (first | exact (Kd.S_reads' HO247.out).2.2 | (with_reducible refine Kd.C_alloc ?_ _) | (with_reducible refine Kd.C_drewN ?_ _) | (with_reducible refine Kd.C_drew ?_))); (case side2 => exact (Kd.S_reads' HO247.out).2.1); rintro e w15 ⟨v251, rfl, ho0, hb⟩; refine ⟨_, rfl, ?_⟩; have n0_ := Aside0.mk (Kd.S_elder' (by (with_reducible repeat (first | apply Kd.S_alloc | apply Kd.S_drewN | apply Kd.S_drew)); exact HO247.out) (Kd.S_base ho0) hb); have n1_ := Aside0.mk (Kd.S_lower (Kd.S_new' ho0 (Kd.S_lt (by (with_reducible repeat (first | apply Kd.S_alloc | apply Kd.S_drewN | apply Kd.S_drew)); exact HO247.out))) (below_size (by repeat (first | (with_reducible first | exact HB.out | apply below_alloc | apply pw_below_drewN | apply below_drew1) | exact HB.out)))); have n2_ := Aside0.mk (below_step (by repeat (first | (with_reducible first | exact HB.out | apply below_alloc | apply pw_below_drewN | apply below_drew1) | exact HB.out)) hb); clear HO247; clear HB; have HO247 := n0_; have HO252 := n1_; have HB := n2_; clear n0_ n1_ n2_; (try clear hb); (try clear hb2); (try clear hk); (try clear hi); (try clear ho0)))
          (try simp only [Act.put, List.setIfInBounds_toArray, List.set_cons_zero, List.set_cons_succ])
          go_cut [87] (fun v87 wc => ∃ (kq : Nat) (x87_11 : Bool), v87 = .bool x87_11 ∧ Aside0 (reelkeeperlaw11_RecordBack.j1 kq l0 t249 x87_11 = some r) ∧ Aside0 (kq ≤ kj4) ∧ Aside0 (Kd.S (Kd.slice 5 (Kd.int .u8)) 30 wc w.heap.size (fun _ => True) v251 t249) ∧ Aside0 (Below w.heap.size w wc))
          case first =>
            have H := HC12.out
            clear HC12
            by_cases c16 : t250 = true
            · subst c16
              have H1 : ((record_Many.f (l0.length : Int) a1).bind fun t253 => (if (t244.length : Int) = t253 then (if (t249.length : Int) = (wrap64 (a1 * (t244.length : Int))) then (if (t249.length : Int) < (l0.length : Int) then (reelkeeperlaw11_RecordBack.j1 kj4 l0 t249 true) else (reelkeeperlaw11_RecordBack.j1 kj4 l0 t249 (decide ((wrap64 ((t249.length : Int) - (l0.length : Int))) ≥ a1)))) else (reelkeeperlaw11_RecordBack.j1 kj4 l0 t249 true)) else (reelkeeperlaw11_RecordBack.j1 kj4 l0 t249 true))) = some r := by rw [if_pos rfl] at H; exact H
              clear H
              have H := H1
              clear H1
              replace H := Option.bind_eq_some_iff.mp H
              obtain ⟨t253, A170, H⟩ := H
              replace H : (if (t244.length : Int) = t253 then (if (t249.length : Int) = (wrap64 (a1 * (t244.length : Int))) then (if (t249.length : Int) < (l0.length : Int) then (reelkeeperlaw11_RecordBack.j1 kj4 l0 t249 true) else (reelkeeperlaw11_RecordBack.j1 kj4 l0 t249 (decide ((wrap64 ((t249.length : Int) - (l0.length : Int))) ≥ a1)))) else (reelkeeperlaw11_RecordBack.j1 kj4 l0 t249 true)) else (reelkeeperlaw11_RecordBack.j1 kj4 l0 t249 true)) = some r := H
              have A17 := Aside0.mk A170
              clear A170
              by_cases c18 : (t244.length : Int) = t253
              · rw [if_pos c18] at H
                have c18b0 : ((t244.length : Int) == t253) = true := beq_iff_eq.mpr c18
                have c18b1 : ((t244.length : Int) != t253) = false := bne_eq_false_iff_eq.mpr c18
                clear c18
                (first | rw [c18b0] | (simp only [i64_w, i32_w]; rw [c18b0]) | skip)
                by_cases c19 : (t249.length : Int) = (wrap64 (a1 * (t244.length : Int)))
                · rw [if_pos c19] at H
                  have c19b0 : ((t249.length : Int) == (wrap64 (a1 * (t244.length : Int)))) = true := beq_iff_eq.mpr c19
                  have c19b1 : ((t249.length : Int) != (wrap64 (a1 * (t244.length : Int)))) = false := bne_eq_false_iff_eq.mpr c19
                  clear c19
                  by_cases c20 : (t249.length : Int) < (l0.length : Int)
                  · rw [if_pos c20] at H
                    have c20b0 : decide ((t249.length : Int) < (l0.length : Int)) = true := decide_eq_true c20
                    have c20b1 : decide (t249.length < l0.length) = true := decide_eq_true (Int.ofNat_lt.mp c20)
                    clear c20
                    have H' := Aside0.mk H
                    clear H
                    go_wp2_with (first | (go_at_call 19; (with_reducible refine (record_Many.calls (l0.length : Int) a1 t253 _ A17.out).mono ?_); rintro e w' ⟨rfl, ⟨nd, rfl⟩⟩; obtain ⟨Ao21, co21, eo21⟩ := Kd.S_slice HO252.out; subst eo21))
                    go_meet
                    case rel => exact ⟨_, (true), (by first | rfl | (simp; done) | (simp [*]; done)), H', ⟨by have := HJ4.out; first | omega | exact Nat.le_refl _⟩, ⟨by (with_reducible repeat (first | apply Kd.S_alloc | apply Kd.S_drewN | apply Kd.S_drew)); exact Kd.S_mono HO252.out (fun _ hk => trivial)⟩, ⟨by repeat (first | (with_reducible first | exact HB.out | apply below_alloc | apply pw_below_drewN | apply below_drew1) | exact HB.out)⟩⟩
                  · rw [if_neg c20] at H
                    have c20b0 : decide ((t249.length : Int) < (l0.length : Int)) = false := decide_eq_false c20
                    have c20b1 : decide (t249.length < l0.length) = false := decide_eq_false (fun h => c20 (Int.ofNat_lt.mpr h))
                    clear c20
                    have H' := Aside0.mk H
                    clear H
                    go_wp2_with (first | (go_at_call 19; (with_reducible refine (record_Many.calls (l0.length : Int) a1 t253 _ A17.out).mono ?_); rintro e w' ⟨rfl, ⟨nd, rfl⟩⟩; obtain ⟨Ao22, co22, eo22⟩ := Kd.S_slice HO252.out; subst eo22))
                    go_meet
                    case rel => exact ⟨_, (decide ((wrap64 ((t249.length : Int) - (l0.length : Int))) ≥ a1)), (by first | rfl | (simp; done) | (simp [*]; done)), H', ⟨by have := HJ4.out; first | omega | exact Nat.le_refl _⟩, ⟨by (with_reducible repeat (first | apply Kd.S_alloc | apply Kd.S_drewN | apply Kd.S_drew)); exact Kd.S_mono HO252.out (fun _ hk => trivial)⟩, ⟨by repeat (first | (with_reducible first | exact HB.out | apply below_alloc | apply pw_below_drewN | apply below_drew1) | exact HB.out)⟩⟩
                · rw [if_neg c19] at H
                  have c19b0 : ((t249.length : Int) == (wrap64 (a1 * (t244.length : Int)))) = false := beq_eq_false_iff_ne.mpr c19
                  have c19b1 : ((t249.length : Int) != (wrap64 (a1 * (t244.length : Int)))) = true := bne_iff_ne.mpr c19
                  have H' := Aside0.mk H
                  clear H
                  go_wp2_with (first | (go_at_call 19; (with_reducible refine (record_Many.calls (l0.length : Int) a1 t253 _ A17.out).mono ?_); rintro e w' ⟨rfl, ⟨nd, rfl⟩⟩; obtain ⟨Ao23, co23, eo23⟩ := Kd.S_slice HO252.out; subst eo23))
                  go_meet
                  case rel => exact ⟨_, (true), (by first | rfl | (simp; done) | (simp [*]; done)), H', ⟨by have := HJ4.out; first | omega | exact Nat.le_refl _⟩, ⟨by (with_reducible repeat (first | apply Kd.S_alloc | apply Kd.S_drewN | apply Kd.S_drew)); exact Kd.S_mono HO252.out (fun _ hk => trivial)⟩, ⟨by repeat (first | (with_reducible first | exact HB.out | apply below_alloc | apply pw_below_drewN | apply below_drew1) | exact HB.out)⟩⟩
              · rw [if_neg c18] at H
                have c18b0 : ((t244.length : Int) == t253) = false := beq_eq_false_iff_ne.mpr c18
                have c18b1 : ((t244.length : Int) != t253) = true := bne_iff_ne.mpr c18
                (first | rw [c18b0] | (simp only [i64_w, i32_w]; rw [c18b0]) | skip)
                have H' := Aside0.mk H
                clear H
                go_wp2_with (first | (go_at_call 19; (with_reducible refine (record_Many.calls (l0.length : Int) a1 t253 _ A17.out).mono ?_); rintro e w' ⟨rfl, ⟨nd, rfl⟩⟩))
                go_meet
                case rel => exact ⟨_, (true), (by first | rfl | (simp; done) | (simp [*]; done)), H', ⟨by have := HJ4.out; first | omega | exact Nat.le_refl _⟩, ⟨by (with_reducible repeat (first | apply Kd.S_alloc | apply Kd.S_drewN | apply Kd.S_drew)); exact Kd.S_mono HO252.out (fun _ hk => trivial)⟩, ⟨by repeat (first | (with_reducible first | exact HB.out | apply below_alloc | apply pw_below_drewN | apply below_drew1) | exact HB.out)⟩⟩
            · replace c16 := Bool.eq_false_iff.mpr c16
              subst c16
              have H1 : (reelkeeperlaw11_RecordBack.j1 kj4 l0 t249 true) = some r := by rw [if_neg (show ¬ (false = true) by decide)] at H; exact H
              clear H
              have H := H1
              clear H1
              have H' := Aside0.mk H
              clear H
              go_wp2
              go_meet
              case rel => exact ⟨_, (true), (by first | rfl | (simp; done) | (simp [*]; done)), H', ⟨by have := HJ4.out; first | omega | exact Nat.le_refl _⟩, ⟨by (with_reducible repeat (first | apply Kd.S_alloc | apply Kd.S_drewN | apply Kd.S_drew)); exact Kd.S_mono HO252.out (fun _ hk => trivial)⟩, ⟨by repeat (first | (with_reducible first | exact HB.out | apply below_alloc | apply pw_below_drewN | apply below_drew1) | exact HB.out)⟩⟩
          case rest =>
            clear HC12
            try clear c1
            try clear c2
            try clear p2
            try clear p6
            try clear c7
            try clear c8
            try clear c9
            try clear c10
            try clear c12
            try clear c14
            try clear c16
            try clear c18
            try clear c18b0
            try clear c18b1
            try clear c19
            try clear c19b0
            try clear c19b1
            try clear c20
            try clear c20b0
            try clear c20b1
            try clear p2
            obtain ⟨kq, x87_11, rfl, HA, HJ11, HO_9, HB⟩ := hcut
            cases kq with
            | zero => exact absurd HA.out (by simp [reelkeeperlaw11_RecordBack.j1])
            | succ kj11 =>
              have H := HA.out
              clear HA
              simp only [reelkeeperlaw11_RecordBack.j1] at H
              by_cases c24 : x87_11 = true
              · subst c24
                have H1 : (none) = some r := by rw [if_pos rfl] at H; exact H
                clear H
                have H := H1
                clear H1
                exact absurd H (by simp)
              · replace c24 := Bool.eq_false_iff.mpr c24
                subst c24
                have H1 : (reelkeeperlaw11_RecordBack.l0 kj11 l0 t249 (l0.length : Int)) = some r := by rw [if_neg (show ¬ (false = true) by decide)] at H; exact H
                clear H
                have H := H1
                clear H1
                have H' := Aside0.mk H
                clear H
                go_wp2
                go_loopg [11] kj11 (fun kq v11 w' => ∃ (x11_3 : Int), v11 = .int .i64 x11_3 ∧ Aside0 (reelkeeperlaw11_RecordBack.l0 kq l0 t249 x11_3 = some r) ∧ Aside0 (kq ≤ kj11) ∧ Aside0 (Kd.S (Kd.slice 5 (Kd.int .u8)) 30 w' w.heap.size (fun _ => True) v251 t249) ∧ Aside0 (Below w.heap.size w w'))
                case atStart => exact ⟨((l0.length : Int)), (by first | rfl | (simp; done) | (simp [*]; done)), H', ⟨Nat.le_refl _⟩, ⟨by (with_reducible repeat (first | apply Kd.S_alloc | apply Kd.S_drewN | apply Kd.S_drew)); exact HO_9.out⟩, ⟨by repeat (first | (with_reducible first | exact HB.out | apply below_alloc | apply pw_below_drewN | apply below_drew1) | exact HB.out)⟩⟩
                case round =>
                  clear H'
                  try clear c1
                  try clear c2
                  try clear p2
                  try clear p6
                  try clear c7
                  try clear c8
                  try clear c9
                  try clear c10
                  try clear c12
                  try clear c14
                  try clear c16
                  try clear c18
                  try clear c18b0
                  try clear c18b1
                  try clear c19
                  try clear c19b0
                  try clear c19b1
                  try clear c20
                  try clear c20b0
                  try clear c20b1
                  try clear c24
                  try clear p2
                  try clear p6
                  obtain ⟨x11_3, rfl, HA, HK3, HO_9, HB⟩ := hrel
                  cases gk with
                  | zero => exact absurd HA.out (by simp [reelkeeperlaw11_RecordBack.l0])
                  | succ k3 =>
                    have H := HA.out
                    clear HA
                    simp only [reelkeeperlaw11_RecordBack.l0] at H
                    by_cases c25 : x11_3 < (t249.length : Int)
                    · rw [if_pos c25] at H
                      have c25b0 : decide (x11_3 < (t249.length : Int)) = true := decide_eq_true c25
                      clear c25
                      by_cases c26 : 0 ≤ x11_3
                      · rw [if_pos c26] at H
                        have c26b0 : decide (0 ≤ x11_3) = true := decide_eq_true c26
                        clear c26
                        replace H := Option.bind_eq_some_iff.mp H
                        obtain ⟨t255, A270, H⟩ := H
                        replace H : (if t255 = true then (reelkeeperlaw11_RecordBack.l0 k3 l0 t249 (wrap64 (x11_3 + 1))) else (none)) = some r := H
                        have A27 := Aside0.mk A270
                        clear A270
                        by_cases c28 : t255 = true
                        · subst c28
                          have H1 : (reelkeeperlaw11_RecordBack.l0 k3 l0 t249 (wrap64 (x11_3 + 1))) = some r := by rw [if_pos rfl] at H; exact H
                          clear H
                          have H := H1
                          clear H1
                          have H' := Aside0.mk H
                          clear H
                          obtain ⟨Ao29, co29, eo29⟩ := Kd.S_slice HO_9.out
                          subst eo29
                          have p254 : 0 ≤ (x11_3 : Int) := of_decide_eq_true (by first | (with_reducible assumption) | assumption)
                          have q254 : x11_3 < (t249.length : Int) := of_decide_eq_true (by first | (with_reducible assumption) | assumption)
                          obtain ⟨ad254, A254_0, c254_0, e254, hx254_0, hl254_0, hi254_0⟩ := at_L1 (Kd.S_reads' HO_9.out).2.2 x11_3 p254 q254
                          cases e254
                          obtain ⟨ce254, hce254, hMe254, hcc254⟩ := Kd.S_get HO_9.out [] x11_3 p254 (by first | exact q254 | exact of_decide_eq_true (by first | (with_reducible assumption) | assumption) | (have e_ := (Kd.S_reads' HO_9.out).1; omega))
                          obtain ⟨ve254_0, rfl, ge254_0⟩ := hMe254
                          have hv254_0 := hcc254 0 _ rfl
                          rw [Nat.add_zero, show ((Kd.slice 5 (Kd.int .u8))).sz = 1 from rfl, Nat.mul_one] at hv254_0
                          replace hv254_0 := Option.some.inj (hv254_0.symm.trans hx254_0)
                          rw [hv254_0] at ge254_0
                          have HL254_0 := Aside0.mk (show Kd.R (Kd.int .u8) 5 _ _ _ _ (rd_L1 t249 x11_3) from ge254_0)
                          clear hv254_0 ge254_0
                          clear hcc254 hce254
                          have HR254_0 := Aside0.mk hi254_0
                          have HC254_0 := Aside0.mk hl254_0
                          clear hi254_0 hl254_0
                          replace p254 := eq_true p254
                          replace q254 := eq_true q254
                          go_wp2_with (first | ((with_reducible refine gate_callee (f := 22) rfl ?_); refine goesL_ (some 100) rfl rfl Try.func22 (by kernel_rfl) rfl #[.slice A254_0 (rd_L1 t249 x11_3).length c254_0] rfl (by (try simp only [List.map_toArray, List.map_cons, List.map_nil]); first | done | rfl | (simp only [List.length_drop, List.length_take]; rfl)) ?_; (with_reducible refine (block_Zero.calls _ _ (rd_L1 t249 x11_3) true _ ?side1 ?side2 A27.out).mono ?_); (case side1 => repeat (first | exact (by repeat (first | (with_reducible exact HR254_0.out) | (with_reducible refine Kd.C_alloc ?_ _) | (with_reducible refine Kd.C_drewN ?_ _) | (with_reducible refine Kd.C_drew ?_) | exact HR254_0.out)) | (with_reducible refine Kd.C_alloc ?_ _) | (with_reducible refine Kd.C_drewN ?_ _) | (with_reducible refine Kd.C_drew ?_))); (case side2 => exact HC254_0.out); rintro e w' ⟨rfl, ⟨nd, rfl⟩⟩; refine ⟨_, rfl, ?_⟩))
                          go_roundg k3
                          case measure => have := HJ4.out; have := HJ11.out; have := HK3.out; omega
                          case rel => exact ⟨(wrap64 (x11_3 + 1)), (by first | rfl | (simp; done) | (simp [*]; done)), H', ⟨by have := HJ4.out; have := HJ11.out; have := HK3.out; omega⟩, ⟨by (with_reducible repeat (first | apply Kd.S_alloc | apply Kd.S_drewN | apply Kd.S_drew)); exact HO_9.out⟩, ⟨by repeat (first | (with_reducible first | exact HB.out | apply below_alloc | apply pw_below_drewN | apply below_drew1) | exact HB.out)⟩⟩
                        · replace c28 := Bool.eq_false_iff.mpr c28
                          subst c28
                          have H1 : (none) = some r := by rw [if_neg (show ¬ (false = true) by decide)] at H; exact H
                          clear H
                          have H := H1
                          clear H1
                          exact absurd H (by simp)
                      · rw [if_neg c26] at H
                        exact absurd H (by simp)
                    · rw [if_neg c25] at H
                      have c25b0 : decide (x11_3 < (t249.length : Int)) = false := decide_eq_false c25
                      clear c25
                      by_cases c30 : 0 ≤ (l0.length : Int)
                      · rw [if_pos c30] at H
                        have c30b0 := eq_true c30
                        have c30b1 : decide (0 ≤ (l0.length : Int)) = true := decide_eq_true c30
                        clear c30
                        by_cases c31 : (l0.length : Int) ≤ (t249.length : Int)
                        · rw [if_pos c31] at H
                          have c31b0 := eq_true c31
                          have c31b1 : decide ((l0.length : Int) ≤ (t249.length : Int)) = true := decide_eq_true c31
                          clear c31
                          obtain ⟨y256, hy256⟩ : ∃ y_ : List (List Int), y_ = (t249.take ((l0.length : Int) : Int).toNat) := ⟨_, rfl⟩
                          replace H : ((reelkeeperref03_Same.f y256 l0).bind fun t260 => (some t260)) = some r := by first | (rw [hy256]; with_reducible exact H) | (have H2_ := (Option.bind_some _ _).symm.trans H; rw [hy256]; with_reducible exact H2_) | (have H2_ := (Option.bind_some _ _).symm.trans H; with_reducible exact H2_) | with_reducible exact H | (rw [hy256]; exact H) | exact H
                          have Ny256 := Aside0.mk hy256
                          clear hy256
                          replace H := Option.bind_eq_some_iff.mp H
                          obtain ⟨t260, A320, H⟩ := H
                          replace H : (some t260) = some r := H
                          have A32 := Aside0.mk A320
                          clear A320
                          obtain rfl := Option.some.inj H
                          obtain ⟨Ao33, co33, eo33⟩ := Kd.S_slice HO_9.out
                          subst eo33
                          have q34 : ((l0.length : Int) : Int) ≤ ((t249.length : Int) : Int) := of_decide_eq_true (by first | (with_reducible assumption) | assumption)
                          obtain ⟨i034, hi034, _, hsz34, _⟩ := info_parts info30
                          have hroom34 : t249.length ≤ co33 := (Kd.S_reads' HO_9.out).2.1
                          have hC34 : Kd.C (Kd.slice 5 (Kd.int .u8)) _ Ao33 t249.length t249 := (Kd.S_reads' HO_9.out).2.2
                          have hcut34 := cut_to (P := Try.prog) 22 30 .i64 Try.underlying22 hi034 Ao33 t249.length co33 (l0.length : Int) (of_decide_eq_true (by first | (with_reducible assumption) | assumption)) q34 hroom34
                          have hr34 := Kd.C_take (m := ((l0.length : Int) : Int).toNat) hC34 (by omega)
                          have hy34 : y256.length = ((l0.length : Int) : Int).toNat := (by rw [Ny256.out, List.length_take]; omega)
                          rw [← Ny256.out] at hr34
                          rw [← hy34] at hcut34
                          have HR259 := Aside0.mk hr34
                          have HC259 := Aside0.mk (show y256.length ≤ co33 from by omega)
                          clear hr34 hC34 hroom34 hi034 hsz34
                          have KY34 := Aside0.mk hy34
                          clear hy34
                          have KL34 := Aside0.mk (show ((l0.length : Int) : Int).toNat ≤ t249.length from by omega)
                          replace q34 := eq_true q34
                          go_wp2_with (first | ((with_reducible refine gate_callee (f := 16) rfl ?_); refine goesL_ (some 107) rfl rfl Try.func16 (by kernel_rfl) rfl #[.slice Ao33 y256.length co33, .slice A0 l0.length c0] rfl (by (try simp only [List.map_toArray, List.map_cons, List.map_nil]); first | done | rfl | (simp only [List.length_drop, List.length_take]; rfl)) ?_; (with_reducible refine (reelkeeperref03_Same.calls _ _ y256 _ _ l0 t260 _ ?side1 ?side2 ?side3 ?side4 A32.out).mono ?_); (case side1 => repeat (first | exact (by repeat (first | (with_reducible exact HR259.out) | (with_reducible refine Kd.C_alloc ?_ _) | (with_reducible refine Kd.C_drewN ?_ _) | (with_reducible refine Kd.C_drew ?_) | exact HR259.out)) | (with_reducible refine Kd.C_alloc ?_ _) | (with_reducible refine Kd.C_drewN ?_ _) | (with_reducible refine Kd.C_drew ?_))); (case side2 => exact HC259.out); (case side3 => repeat (first | exact (Kd.C_below HR0.out HB.out) | (with_reducible refine Kd.C_alloc ?_ _) | (with_reducible refine Kd.C_drewN ?_ _) | (with_reducible refine Kd.C_drew ?_))); (case side4 => exact HC0.out); rintro e w' ⟨rfl, ⟨nd, rfl⟩⟩; refine ⟨_, rfl, ?_⟩))
                          go_ret
                          exact ⟨by first | rfl | (simp [errW_none, errW_some] <;> rfl) | (simp [*, errW_none, errW_some] <;> rfl), by repeat (first | (with_reducible first | exact HB.out | apply below_alloc | apply pw_below_drewN | apply below_drew1) | exact HB.out)⟩
                        · rw [if_neg c31] at H
                          exact absurd H (by simp)
                      · rw [if_neg c30] at H
                        exact absurd H (by simp)
        · replace c10 := Bool.eq_false_iff.mpr c10
          subst c10
          have H1 : (if (t244.length : Int) = 0 then ((block_May.f l0).bind fun t248 => (if t248 = true then (if a1 < 1 then (some true) else (some (decide (a1 > 20)))) else (some true))) else (none)) = some r := by rw [if_neg (show ¬ (false = true) by decide)] at H; exact H
          clear H
          have H := H1
          clear H1
          by_cases c35 : (t244.length : Int) = 0
          · rw [if_pos c35] at H
            have c35b0 : ((t244.length : Int) == 0) = true := beq_iff_eq.mpr c35
            have c35b1 : ((t244.length : Int) != 0) = false := bne_eq_false_iff_eq.mpr c35
            clear c35
            replace H := Option.bind_eq_some_iff.mp H
            obtain ⟨t248, A360, H⟩ := H
            replace H : (if t248 = true then (if a1 < 1 then (some true) else (some (decide (a1 > 20)))) else (some true)) = some r := H
            have A36 := Aside0.mk A360
            clear A360
            by_cases c37 : t248 = true
            · subst c37
              have H1 : (if a1 < 1 then (some true) else (some (decide (a1 > 20)))) = some r := by rw [if_pos rfl] at H; exact H
              clear H
              have H := H1
              clear H1
              by_cases c38 : a1 < 1
              · rw [if_pos c38] at H
                have c38b0 : decide (a1 < 1) = true := decide_eq_true c38
                clear c38
                obtain rfl := Option.some.inj H
                go_wp2_with (first | ((with_reducible refine gate_callee (f := 12) rfl ?_); refine goesL_ (some 26) rfl rfl Try.func12 (by kernel_rfl) rfl #[.slice A0 l0.length c0, .int .i64 a1] rfl (by (try simp only [List.map_toArray, List.map_cons, List.map_nil]); first | done | rfl | (simp only [List.length_drop, List.length_take]; rfl)) ?_; (with_reducible refine (record_Group.calls _ _ l0 a1 t244 false _ ?side1 ?side2 A9.out).mono ?_); (case side1 => repeat (first | exact (Kd.C_below HR0.out HB.out) | (with_reducible refine Kd.C_alloc ?_ _) | (with_reducible refine Kd.C_drewN ?_ _) | (with_reducible refine Kd.C_drew ?_))); (case side2 => exact HC0.out); rintro e w39 ⟨v246, rfl, ho0, hb⟩; refine ⟨_, rfl, ?_⟩; have n0_ := Aside0.mk (Kd.S_lower ho0 (below_size (by repeat (first | (with_reducible first | exact HB.out | apply below_alloc | apply pw_below_drewN | apply below_drew1) | exact HB.out)))); have n1_ := Aside0.mk (below_step (by repeat (first | (with_reducible first | exact HB.out | apply below_alloc | apply pw_below_drewN | apply below_drew1) | exact HB.out)) hb); clear HB; have HO247 := n0_; have HB := n1_; clear n0_ n1_; (try clear hb); (try clear hb2); (try clear hk); (try clear hi); (try clear ho0); obtain ⟨Ao40, co40, eo40⟩ := Kd.S_slice HO247.out; subst eo40) | (go_at_call 21; (with_reducible refine (block_May.calls _ _ l0 true _ ?side1 ?side2 A36.out).mono ?_); (case side1 => repeat (first | exact (Kd.C_below HR0.out HB.out) | (with_reducible refine Kd.C_alloc ?_ _) | (with_reducible refine Kd.C_drewN ?_ _) | (with_reducible refine Kd.C_drew ?_))); (case side2 => exact HC0.out); rintro e w' ⟨rfl, ⟨nd, rfl⟩⟩))
                go_ret
                exact ⟨by first | rfl | (simp [errW_none, errW_some] <;> rfl) | (simp [*, errW_none, errW_some] <;> rfl), by repeat (first | (with_reducible first | exact HB.out | apply below_alloc | apply pw_below_drewN | apply below_drew1) | exact HB.out)⟩
              · rw [if_neg c38] at H
                have c38b0 : decide (a1 < 1) = false := decide_eq_false c38
                clear c38
                obtain rfl := Option.some.inj H
                go_wp2_with (first | ((with_reducible refine gate_callee (f := 12) rfl ?_); refine goesL_ (some 26) rfl rfl Try.func12 (by kernel_rfl) rfl #[.slice A0 l0.length c0, .int .i64 a1] rfl (by (try simp only [List.map_toArray, List.map_cons, List.map_nil]); first | done | rfl | (simp only [List.length_drop, List.length_take]; rfl)) ?_; (with_reducible refine (record_Group.calls _ _ l0 a1 t244 false _ ?side1 ?side2 A9.out).mono ?_); (case side1 => repeat (first | exact (Kd.C_below HR0.out HB.out) | (with_reducible refine Kd.C_alloc ?_ _) | (with_reducible refine Kd.C_drewN ?_ _) | (with_reducible refine Kd.C_drew ?_))); (case side2 => exact HC0.out); rintro e w41 ⟨v246, rfl, ho0, hb⟩; refine ⟨_, rfl, ?_⟩; have n0_ := Aside0.mk (Kd.S_lower ho0 (below_size (by repeat (first | (with_reducible first | exact HB.out | apply below_alloc | apply pw_below_drewN | apply below_drew1) | exact HB.out)))); have n1_ := Aside0.mk (below_step (by repeat (first | (with_reducible first | exact HB.out | apply below_alloc | apply pw_below_drewN | apply below_drew1) | exact HB.out)) hb); clear HB; have HO247 := n0_; have HB := n1_; clear n0_ n1_; (try clear hb); (try clear hb2); (try clear hk); (try clear hi); (try clear ho0); obtain ⟨Ao42, co42, eo42⟩ := Kd.S_slice HO247.out; subst eo42) | (go_at_call 21; (with_reducible refine (block_May.calls _ _ l0 true _ ?side1 ?side2 A36.out).mono ?_); (case side1 => repeat (first | exact (Kd.C_below HR0.out HB.out) | (with_reducible refine Kd.C_alloc ?_ _) | (with_reducible refine Kd.C_drewN ?_ _) | (with_reducible refine Kd.C_drew ?_))); (case side2 => exact HC0.out); rintro e w' ⟨rfl, ⟨nd, rfl⟩⟩))
                go_ret
                exact ⟨by first | rfl | (simp [errW_none, errW_some] <;> rfl) | (simp [*, errW_none, errW_some] <;> rfl), by repeat (first | (with_reducible first | exact HB.out | apply below_alloc | apply pw_below_drewN | apply below_drew1) | exact HB.out)⟩
            · replace c37 := Bool.eq_false_iff.mpr c37
              subst c37
              have H1 : (some true) = some r := by rw [if_neg (show ¬ (false = true) by decide)] at H; exact H
              clear H
              have H := H1
              clear H1
              obtain rfl := Option.some.inj H
              go_wp2_with (first | ((with_reducible refine gate_callee (f := 12) rfl ?_); refine goesL_ (some 26) rfl rfl Try.func12 (by kernel_rfl) rfl #[.slice A0 l0.length c0, .int .i64 a1] rfl (by (try simp only [List.map_toArray, List.map_cons, List.map_nil]); first | done | rfl | (simp only [List.length_drop, List.length_take]; rfl)) ?_; (with_reducible refine (record_Group.calls _ _ l0 a1 t244 false _ ?side1 ?side2 A9.out).mono ?_); (case side1 => repeat (first | exact (Kd.C_below HR0.out HB.out) | (with_reducible refine Kd.C_alloc ?_ _) | (with_reducible refine Kd.C_drewN ?_ _) | (with_reducible refine Kd.C_drew ?_))); (case side2 => exact HC0.out); rintro e w43 ⟨v246, rfl, ho0, hb⟩; refine ⟨_, rfl, ?_⟩; have n0_ := Aside0.mk (Kd.S_lower ho0 (below_size (by repeat (first | (with_reducible first | exact HB.out | apply below_alloc | apply pw_below_drewN | apply below_drew1) | exact HB.out)))); have n1_ := Aside0.mk (below_step (by repeat (first | (with_reducible first | exact HB.out | apply below_alloc | apply pw_below_drewN | apply below_drew1) | exact HB.out)) hb); clear HB; have HO247 := n0_; have HB := n1_; clear n0_ n1_; (try clear hb); (try clear hb2); (try clear hk); (try clear hi); (try clear ho0); obtain ⟨Ao44, co44, eo44⟩ := Kd.S_slice HO247.out; subst eo44) | (go_at_call 21; (with_reducible refine (block_May.calls _ _ l0 false _ ?side1 ?side2 A36.out).mono ?_); (case side1 => repeat (first | exact (Kd.C_below HR0.out HB.out) | (with_reducible refine Kd.C_alloc ?_ _) | (with_reducible refine Kd.C_drewN ?_ _) | (with_reducible refine Kd.C_drew ?_))); (case side2 => exact HC0.out); rintro e w' ⟨rfl, ⟨nd, rfl⟩⟩))
              go_ret
              exact ⟨by first | rfl | (simp [errW_none, errW_some] <;> rfl) | (simp [*, errW_none, errW_some] <;> rfl), by repeat (first | (with_reducible first | exact HB.out | apply below_alloc | apply pw_below_drewN | apply below_drew1) | exact HB.out)⟩
          · rw [if_neg c35] at H
            exact absurd H (by simp)

end Go.Proofs.Ytckoafndhccomaa.M
