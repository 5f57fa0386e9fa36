/- Part of a claim: what some functions of the program compute, each with its contract; no condition of its own. Written by a program of this workplace (gen.py, over the print of the kit) and by hand. -/
import Derived.Test.YtckoafndhccomaaM0
import Derived.Test.YtckoafndhccomaaM8
import Derived.Test.YtckoafndhccomaaM9
import Derived.Test.YtckoafndhccomaaM10
import Derived.Test.YtckoafndhccomaaM11
import Derived.Test.YtckoafndhccomaaM12
import Derived.Test.YtckoafndhccomaaM14
namespace Go.Proofs.Ytckoafndhccomaa.M
open Go.RowKit Go.Proofs.YtckoafndhccomaaW.PrintWords Go.Proofs.YtckoafndhccomaaW.PrintLast Go.Proofs.YtckoafndhccomaaW.PrintMore
attribute [local go_sem] max2_int min2_int max_two min_two max_three min_three max_four min_four   -- for this text's walks alone
set_option linter.unusedVariables false
set_option linter.unusedSimpArgs false

def zerosOf (n : Int) : List (List Int) := if n < 1 ∨ 400 < n then [] else List.replicate n.toNat (List.replicate 512 0)
theorem block_Zeros.ends (n : Int) (hn : 1 ≤ n) (hn2 : n ≤ 400) (d : Nat) : ∀ (k : Nat) (i : Int), 0 ≤ i → i ≤ n → n - i = d → d < k →
    block_Zeros.l0 k (List.replicate i.toNat (List.replicate 512 0)) n i = some (List.replicate n.toNat (List.replicate 512 0)) := by
  induction d with
  | zero =>
    intro k i h0 h1 hd hk
    obtain ⟨k, rfl⟩ : ∃ m, k = m + 1 := ⟨k - 1, by omega⟩
    simp only [block_Zeros.l0]
    rw [if_neg (by omega), show i = n by omega]
  | succ d ih =>
    intro k i h0 h1 hd hk
    obtain ⟨k, rfl⟩ : ∃ m, k = m + 1 := ⟨k - 1, by omega⟩
    simp only [block_Zeros.l0]
    rw [if_pos (by omega), if_pos (by omega), if_pos (by rw [List.length_replicate]; omega), wrap_id (by omega) (by omega), ← List.replicate_succ']
    have := ih k (i + 1) (by omega) (by omega) (by omega) (by omega)
    rwa [show (i + 1).toNat = i.toNat + 1 by omega] at this
theorem block_Zeros.tells (n : Int) : ∃ k, block_Zeros.f k n = some (zerosOf n) := by
  refine ⟨n.toNat + 2, ?_⟩
  unfold block_Zeros.f zerosOf
  by_cases h : n < 1
  · rw [if_pos h, if_pos (.inl h)]; simp only [block_Zeros.j0, if_true]
  · rw [if_neg h]
    simp only [block_Zeros.j0]
    by_cases h2 : n > 400
    · rw [if_pos (by simpa using h2), if_pos (.inr h2)]
    · rw [if_neg (by simpa using h2), if_neg (by omega)]
      exact block_Zeros.ends n (by omega) (by omega) n.toNat _ 0 (by omega) (by omega) (by omega) (by omega)
theorem block_Zeros.ev (n : Int) : Ev (fun k => block_Zeros.f k n) (zerosOf n) := by
  obtain ⟨k, hk⟩ := block_Zeros.tells n
  exact Ev.of (fun k => block_Zeros.mono n k) hk

/-! ### reelkeeperlaw11_awake: function 9 -/
def reelkeeperlaw11_awake.f (k : Nat)  : Option (Bool) := (block_Zeros.f k 5).bind fun t110 => ((record_Group.f t110 2).bind fun bt113 => ((record_Blocks.f bt113.1).bind fun bt117 => (if bt113.2 = true then (if (bt113.1.length : Int) = 3 then (if 0 < (bt113.1.length : Int) then (if ((rd_L1 bt113.1 0).length : Int) = 1024 then (if bt117.2 = true then (if (bt117.1.length : Int) = 6 then ((record_Many.f 5 2).bind fun t122 => (if t122 = 3 then ((record_May.f (rd_L1 bt113.1 0)).bind fun t124 => (some t124)) else (none))) else (none)) else (none)) else (none)) else (none)) else (none)) else (none))))
theorem reelkeeperlaw11_awake.mono : ∀ k, LeO (reelkeeperlaw11_awake.f k ) (reelkeeperlaw11_awake.f (k + 1) ) := by
  intro  k
  unfold reelkeeperlaw11_awake.f
  repeat' first
      | (with_reducible exact block_Zeros.mono _ _)
      | (with_reducible exact LeO.refl _)
      | (with_reducible exact LeO.none _)
      | (with_reducible refine LeO.ite ?_ ?_)
      | (with_reducible refine LeO.bind ?_ (fun _ => ?_))
      | exact block_Zeros.mono _ _
      | exact LeO.none _
      | refine LeO.ite ?_ ?_
      | refine LeO.bind ?_ (fun _ => ?_)
set_option maxHeartbeats 8000000 in
set_option maxRecDepth 100000 in
theorem reelkeeperlaw11_awake.calls (k : Nat)  (r : Bool) (w : World) (h : reelkeeperlaw11_awake.f k  = some r) :
    Calls Try.prog 9 #[] w fun e w' => e = .returned (.bool r) ∧ Below w.heap.size w w' := by
  have HB := Aside0.mk (Below.refl w.heap.size w)
  have H : ((block_Zeros.f k 5).bind fun t110 => ((record_Group.f t110 2).bind fun bt113 => ((record_Blocks.f bt113.1).bind fun bt117 => (if bt113.2 = true then (if (bt113.1.length : Int) = 3 then (if 0 < (bt113.1.length : Int) then (if ((rd_L1 bt113.1 0).length : Int) = 1024 then (if bt117.2 = true then (if (bt117.1.length : Int) = 6 then ((record_Many.f 5 2).bind fun t122 => (if t122 = 3 then ((record_May.f (rd_L1 bt113.1 0)).bind fun t124 => (some t124)) else (none))) else (none)) else (none)) else (none)) else (none)) else (none)) else (none))))) = some r := h
  clear h
  replace H := Option.bind_eq_some_iff.mp H
  obtain ⟨t110, A10, H⟩ := H
  replace H : ((record_Group.f t110 2).bind fun bt113 => ((record_Blocks.f bt113.1).bind fun bt117 => (if bt113.2 = true then (if (bt113.1.length : Int) = 3 then (if 0 < (bt113.1.length : Int) then (if ((rd_L1 bt113.1 0).length : Int) = 1024 then (if bt117.2 = true then (if (bt117.1.length : Int) = 6 then ((record_Many.f 5 2).bind fun t122 => (if t122 = 3 then ((record_May.f (rd_L1 bt113.1 0)).bind fun t124 => (some t124)) else (none))) else (none)) else (none)) else (none)) else (none)) else (none)) else (none)))) = some r := H
  have A1 := Aside0.mk A10
  clear A10
  replace H := Option.bind_eq_some_iff.mp H
  obtain ⟨⟨t113, t114⟩, A20, H⟩ := H
  replace H : ((record_Blocks.f t113).bind fun bt117 => (if t114 = true then (if (t113.length : Int) = 3 then (if 0 < (t113.length : Int) then (if ((rd_L1 t113 0).length : Int) = 1024 then (if bt117.2 = true then (if (bt117.1.length : Int) = 6 then ((record_Many.f 5 2).bind fun t122 => (if t122 = 3 then ((record_May.f (rd_L1 t113 0)).bind fun t124 => (some t124)) else (none))) else (none)) else (none)) else (none)) else (none)) else (none)) else (none))) = some r := H
  have A2 := Aside0.mk A20
  clear A20
  replace H := Option.bind_eq_some_iff.mp H
  obtain ⟨⟨t117, t118⟩, A30, H⟩ := H
  replace H : (if t114 = true then (if (t113.length : Int) = 3 then (if 0 < (t113.length : Int) then (if ((rd_L1 t113 0).length : Int) = 1024 then (if t118 = true then (if (t117.length : Int) = 6 then ((record_Many.f 5 2).bind fun t122 => (if t122 = 3 then ((record_May.f (rd_L1 t113 0)).bind fun t124 => (some t124)) else (none))) else (none)) else (none)) else (none)) else (none)) else (none)) else (none)) = some r := H
  have A3 := Aside0.mk A30
  clear A30
  by_cases c4 : t114 = true
  · subst c4
    have H1 : (if (t113.length : Int) = 3 then (if 0 < (t113.length : Int) then (if ((rd_L1 t113 0).length : Int) = 1024 then (if t118 = true then (if (t117.length : Int) = 6 then ((record_Many.f 5 2).bind fun t122 => (if t122 = 3 then ((record_May.f (rd_L1 t113 0)).bind fun t124 => (some t124)) else (none))) else (none)) else (none)) else (none)) else (none)) else (none)) = some r := by rw [if_pos rfl] at H; exact H
    clear H
    have H := H1
    clear H1
    by_cases c5 : (t113.length : Int) = 3
    · rw [if_pos c5] at H
      have c5b0 : ((t113.length : Int) == 3) = true := beq_iff_eq.mpr c5
      have c5b1 : ((t113.length : Int) != 3) = false := bne_eq_false_iff_eq.mpr c5
      clear c5
      by_cases c6 : 0 < (t113.length : Int)
      · rw [if_pos c6] at H
        have c6b0 : decide (0 < (t113.length : Int)) = true := decide_eq_true c6
        have c6b1 : decide (0 < t113.length) = true := decide_eq_true (by omega)
        clear c6
        by_cases c7 : ((rd_L1 t113 0).length : Int) = 1024
        · rw [if_pos c7] at H
          have c7b0 : (((rd_L1 t113 0).length : Int) == 1024) = true := beq_iff_eq.mpr c7
          have c7b1 : (((rd_L1 t113 0).length : Int) != 1024) = false := bne_eq_false_iff_eq.mpr c7
          clear c7
          by_cases c8 : t118 = true
          · subst c8
            have H1 : (if (t117.length : Int) = 6 then ((record_Many.f 5 2).bind fun t122 => (if t122 = 3 then ((record_May.f (rd_L1 t113 0)).bind fun t124 => (some t124)) else (none))) else (none)) = some r := by rw [if_pos rfl] at H; exact H
            clear H
            have H := H1
            clear H1
            by_cases c9 : (t117.length : Int) = 6
            · rw [if_pos c9] at H
              have c9b0 : ((t117.length : Int) == 6) = true := beq_iff_eq.mpr c9
              have c9b1 : ((t117.length : Int) != 6) = false := bne_eq_false_iff_eq.mpr c9
              clear c9
              replace H := Option.bind_eq_some_iff.mp H
              obtain ⟨t122, A100, H⟩ := H
              replace H : (if t122 = 3 then ((record_May.f (rd_L1 t113 0)).bind fun t124 => (some t124)) else (none)) = some r := H
              have A10 := Aside0.mk A100
              clear A100
              by_cases c11 : t122 = 3
              · rw [if_pos c11] at H
                have c11b0 : (t122 == 3) = true := beq_iff_eq.mpr c11
                have c11b1 : (t122 != 3) = false := bne_eq_false_iff_eq.mpr c11
                clear c11
                replace H := Option.bind_eq_some_iff.mp H
                obtain ⟨t124, A120, H⟩ := H
                replace H : (some t124) = some r := H
                have A12 := Aside0.mk A120
                clear A120
                obtain rfl := Option.some.inj H
                go_enter Try.func9, Try.ntmps9
                go_wp2_with (first | ((with_reducible refine gate_callee (f := 23) rfl ?_); refine goesL_ (some 6) rfl rfl Try.func23 (by kernel_rfl) rfl #[.int .i64 5] rfl (by (try simp only [List.map_toArray, List.map_cons, List.map_nil]); first | done | rfl | (simp only [List.length_drop, List.length_take]; rfl)) ?_; (with_reducible refine (block_Zeros.calls k 5 t110 _ A1.out).mono ?_); rintro e w13 ⟨v111, rfl, ho0, hb⟩; refine ⟨_, rfl, ?_⟩; have n0_ := Aside0.mk (Kd.S_lower ho0 (below_size (by repeat (first | (with_reducible first | exact HB.out | apply below_alloc | apply pw_below_drewN | apply below_drew1) | exact HB.out)))); have n1_ := Aside0.mk (below_step (by repeat (first | (with_reducible first | exact HB.out | apply below_alloc | apply pw_below_drewN | apply below_drew1) | exact HB.out)) hb); clear HB; have HO112 := n0_; have HB := n1_; clear n0_ n1_; (try clear hb); (try clear hb2); (try clear hk); (try clear hi); (try clear ho0); obtain ⟨Ao14, co14, eo14⟩ := Kd.S_slice HO112.out; subst eo14) | ((with_reducible refine gate_callee (f := 12) rfl ?_); refine goesL_ (some 7) rfl rfl Try.func12 (by kernel_rfl) rfl #[.slice Ao14 t110.length co14, .int .i64 2] rfl (by (try simp only [List.map_toArray, List.map_cons, List.map_nil]); first | done | rfl | (simp only [List.length_drop, List.length_take]; rfl)) ?_; (with_reducible refine (record_Group.calls _ _ t110 2 t113 true _ ?side1 ?side2 A2.out).mono ?_); (case side1 => repeat (first | exact (Kd.S_reads' HO112.out).2.2 | (with_reducible refine Kd.C_alloc ?_ _) | (with_reducible refine Kd.C_drewN ?_ _) | (with_reducible refine Kd.C_drew ?_))); (case side2 => exact (Kd.S_reads' HO112.out).2.1); rintro e w15 ⟨v115, rfl, ho0, hb⟩; refine ⟨_, rfl, ?_⟩; have n0_ := Aside0.mk (Kd.S_elder' (by (with_reducible repeat (first | apply Kd.S_alloc | apply Kd.S_drewN | apply Kd.S_drew)); exact HO112.out) (Kd.S_base ho0) hb); have n1_ := Aside0.mk (Kd.S_lower (Kd.S_new' ho0 (Kd.S_lt (by (with_reducible repeat (first | apply Kd.S_alloc | apply Kd.S_drewN | apply Kd.S_drew)); exact HO112.out))) (below_size (by repeat (first | (with_reducible first | exact HB.out | apply below_alloc | apply pw_below_drewN | apply below_drew1) | exact HB.out)))); have n2_ := Aside0.mk (below_step (by repeat (first | (with_reducible first | exact HB.out | apply below_alloc | apply pw_below_drewN | apply below_drew1) | exact HB.out)) hb); clear HO112; clear HB; have HO112 := n0_; have HO116 := n1_; have HB := n2_; clear n0_ n1_ n2_; (try clear hb); (try clear hb2); (try clear hk); (try clear hi); (try clear ho0); obtain ⟨Ao16, co16, eo16⟩ := Kd.S_slice HO116.out; subst eo16) | ((with_reducible refine gate_callee (f := 14) rfl ?_); refine goesL_ (some 12) rfl rfl Try.func14 (by kernel_rfl) rfl #[.slice Ao16 t113.length co16] rfl (by (try simp only [List.map_toArray, List.map_cons, List.map_nil]); first | done | rfl | (simp only [List.length_drop, List.length_take]; rfl)) ?_; (with_reducible refine (record_Blocks.calls _ _ t113 t117 true _ ?side1 ?side2 A3.out).mono ?_); (case side1 => repeat (first | exact (Kd.S_reads' HO116.out).2.2 | (with_reducible refine Kd.C_alloc ?_ _) | (with_reducible refine Kd.C_drewN ?_ _) | (with_reducible refine Kd.C_drew ?_))); (case side2 => exact (Kd.S_reads' HO116.out).2.1); rintro e w17 ⟨v119, rfl, ho0, hb⟩; refine ⟨_, rfl, ?_⟩; have n0_ := Aside0.mk (Kd.S_elder' (by (with_reducible repeat (first | apply Kd.S_alloc | apply Kd.S_drewN | apply Kd.S_drew)); exact HO112.out) (Kd.S_base ho0) hb); have n1_ := Aside0.mk (Kd.S_elder' (by (with_reducible repeat (first | apply Kd.S_alloc | apply Kd.S_drewN | apply Kd.S_drew)); exact HO116.out) (Kd.S_base ho0) hb); have n2_ := Aside0.mk (Kd.S_lower (Kd.S_new' (Kd.S_new' ho0 (Kd.S_lt (by (with_reducible repeat (first | apply Kd.S_alloc | apply Kd.S_drewN | apply Kd.S_drew)); exact HO112.out))) (Kd.S_lt (by (with_reducible repeat (first | apply Kd.S_alloc | apply Kd.S_drewN | apply Kd.S_drew)); exact HO116.out))) (below_size (by repeat (first | (with_reducible first | exact HB.out | apply below_alloc | apply pw_below_drewN | apply below_drew1) | exact HB.out)))); have n3_ := Aside0.mk (below_step (by repeat (first | (with_reducible first | exact HB.out | apply below_alloc | apply pw_below_drewN | apply below_drew1) | exact HB.out)) hb); clear HO112; clear HO116; clear HB; have HO112 := n0_; have HO116 := n1_; have HO120 := n2_; have HB := n3_; clear n0_ n1_ n2_ n3_; (try clear hb); (try clear hb2); (try clear hk); (try clear hi); (try clear ho0); have p121 : 0 ≤ (0 : Int) := (by omega); have q121 : 0 < (t113.length : Int) := of_decide_eq_true (by first | (with_reducible assumption) | assumption); obtain ⟨ad121, A121_0, c121_0, e121, hx121_0, hl121_0, hi121_0⟩ := at_L1 (Kd.S_reads' HO116.out).2.2 0 p121 q121; cases e121; obtain ⟨ce121, hce121, hMe121, hcc121⟩ := Kd.S_get HO116.out [] 0 p121 (by first | exact q121 | exact of_decide_eq_true (by first | (with_reducible assumption) | assumption) | (have e_ := (Kd.S_reads' HO116.out).1; omega)); obtain ⟨ve121_0, rfl, ge121_0⟩ := hMe121; have hv121_0 := hcc121 0 _ rfl; rw [Nat.add_zero, show ((Kd.slice 5 (Kd.int .u8))).sz = 1 from rfl, Nat.mul_one] at hv121_0; replace hv121_0 := Option.some.inj (hv121_0.symm.trans hx121_0); rw [hv121_0] at ge121_0; have HL121_0 := Aside0.mk (show Kd.R (Kd.int .u8) 5 _ _ _ _ (rd_L1 t113 0) from ge121_0); clear hv121_0 ge121_0; clear hcc121 hce121; have qi121 : (0 < t113.length) = True := eq_true (by omega); (try rw [show ((0 : Int)).toNat = 0 from rfl] at hx121_0); (try rw [Addr.add_zero'] at hx121_0); have HR121_0 := Aside0.mk hi121_0; have HC121_0 := Aside0.mk hl121_0; clear hi121_0 hl121_0; replace p121 := eq_true p121; replace q121 := eq_true q121; obtain ⟨Ao18, co18, eo18⟩ := Kd.S_slice HO120.out; subst eo18) | (go_at_call 19; (with_reducible refine (record_Many.calls 5 2 t122 _ A10.out).mono ?_); rintro e w' ⟨rfl, ⟨nd, rfl⟩⟩; have p123 : 0 ≤ (0 : Int) := (by omega); have q123 : 0 < (t113.length : Int) := of_decide_eq_true (by first | (with_reducible assumption) | assumption); obtain ⟨ad123, A123_0, c123_0, e123, hx123_0, hl123_0, hi123_0⟩ := at_L1 (Kd.S_reads' HO116.out).2.2 0 p123 q123; obtain rfl : ad121 = ad123 := (by injection e123); obtain ⟨ce123, hce123, hMe123, hcc123⟩ := Kd.S_get HO116.out [] 0 p123 (by first | exact q123 | exact of_decide_eq_true (by first | (with_reducible assumption) | assumption) | (have e_ := (Kd.S_reads' HO116.out).1; omega)); obtain ⟨ve123_0, rfl, ge123_0⟩ := hMe123; have hv123_0 := hcc123 0 _ rfl; rw [Nat.add_zero, show ((Kd.slice 5 (Kd.int .u8))).sz = 1 from rfl, Nat.mul_one] at hv123_0; replace hv123_0 := Option.some.inj (hv123_0.symm.trans hx123_0); rw [hv123_0] at ge123_0; have HL123_0 := Aside0.mk (show Kd.R (Kd.int .u8) 5 _ _ _ _ (rd_L1 t113 0) from ge123_0); clear hv123_0 ge123_0; clear hcc123 hce123; have qi123 : (0 < t113.length) = True := eq_true (by omega); (try rw [show ((0 : Int)).toNat = 0 from rfl] at hx123_0); (try rw [Addr.add_zero'] at hx123_0); have HR123_0 := Aside0.mk hi123_0; have HC123_0 := Aside0.mk hl123_0; clear hi123_0 hl123_0; replace p123 := eq_true p123; replace q123 := eq_true q123; have ea_ := Option.some.inj (hx121_0.symm.trans hx123_0); injection ea_ with ea_ en_ ec_; subst ea_; subst ec_; clear en_) | (go_at_call 18; (with_reducible refine (record_May.calls _ _ (rd_L1 t113 0) t124 _ ?side1 ?side2 A12.out).mono ?_); (case side1 => repeat (first | exact (by repeat (first | (with_reducible exact HR123_0.out) | (with_reducible refine Kd.C_alloc ?_ _) | (with_reducible refine Kd.C_drewN ?_ _) | (with_reducible refine Kd.C_drew ?_) | exact HR123_0.out)) | (with_reducible refine Kd.C_alloc ?_ _) | (with_reducible refine Kd.C_drewN ?_ _) | (with_reducible refine Kd.C_drew ?_))); (case side2 => exact HC123_0.out); rintro e w' ⟨rfl, ⟨nd, rfl⟩⟩))
                go_ret
                exact ⟨by first | rfl | (simp [errW_none, errW_some] <;> rfl) | (simp [*, errW_none, errW_some] <;> rfl), by repeat (first | (with_reducible first | exact HB.out | apply below_alloc | apply pw_below_drewN | apply below_drew1) | exact HB.out)⟩
              · rw [if_neg c11] at H
                exact absurd H (by simp)
            · rw [if_neg c9] at H
              exact absurd H (by simp)
          · replace c8 := Bool.eq_false_iff.mpr c8
            subst c8
            have H1 : (none) = some r := by rw [if_neg (show ¬ (false = true) by decide)] at H; exact H
            clear H
            have H := H1
            clear H1
            exact absurd H (by simp)
        · rw [if_neg c7] at H
          exact absurd H (by simp)
      · rw [if_neg c6] at H
        exact absurd H (by simp)
    · rw [if_neg c5] at H
      exact absurd H (by simp)
  · replace c4 := Bool.eq_false_iff.mpr c4
    subst c4
    have H1 : (none) = some r := by rw [if_neg (show ¬ (false = true) by decide)] at H; exact H
    clear H
    have H := H1
    clear H1
    exact absurd H (by simp)

end Go.Proofs.Ytckoafndhccomaa.M
