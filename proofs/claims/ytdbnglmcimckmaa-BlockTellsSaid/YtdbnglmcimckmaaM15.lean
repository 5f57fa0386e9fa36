/- Part of a claim: what some functions of the program compute, each with its contract; no condition of its own. Written by a program of this workplace (gen.py, over the print of the kit) and by hand. -/
import Derived.Test.YtdbnglmcimckmaaM0
import Derived.Test.YtdbnglmcimckmaaM4
import Derived.Test.YtdbnglmcimckmaaM5
import Derived.Test.YtdbnglmcimckmaaM6
import Derived.Test.YtdbnglmcimckmaaM7
import Derived.Test.YtdbnglmcimckmaaM9
import Derived.Test.YtdbnglmcimckmaaM12
import Derived.Test.YtdbnglmcimckmaaM13
import Derived.Test.YtdbnglmcimckmaaM14
namespace Go.Proofs.Ytdbnglmcimckmaa.M
open Go.RowKit Go.Proofs.YtdbnglmcimckmaaW.PrintWords Go.Proofs.YtdbnglmcimckmaaW.PrintLast Go.Proofs.YtdbnglmcimckmaaW.PrintMore
attribute [local go_sem] max2_int min2_int max_two min_two max_three min_three max_four min_four   -- for this text's walks alone
set_option linter.unusedVariables false
set_option linter.unusedSimpArgs false

/-! ### reelkeeperlaw03_awake: function 10 -/
def reelkeeperlaw03_awake.f (k : Nat)  : Option (Bool) := (reelkeeperlaw03_long.f k 513).bind fun t117 => ((block_Cut.f t117).bind fun t118 => ((block_Text.f t118 513).bind fun bt121 => ((block_Many.f 513).bind fun t123 => (if t123 = 2 then (if (t118.length : Int) = 2 then ((block_May.f t118).bind fun t124 => (if t124 = true then (if 1 < (t118.length : Int) then (if 0 < ((rd_L1 t118 1).length : Int) then (if (rd (rd_L1 t118 1) 0) = 1 then (if 1 < ((rd_L1 t118 1).length : Int) then (if (rd (rd_L1 t118 1) 1) = 0 then (if bt121.2 = true then ((reelkeeperlaw03_long.f k 513).bind fun t129 => (if bt121.1.toList = t129.toList then ((block_Zero.f ([] : List Int)).bind fun t130 => (if t130 = true then ((block_Zeros.f k 2).bind fun t131 => (if (t131.length : Int) = 2 then ((block_Same.f t118 t118).bind fun t134 => (some t134)) else (none))) else (none))) else (none))) else (none)) else (none)) else (none)) else (none)) else (none)) else (none)) else (none))) else (none)) else (none)))))
theorem reelkeeperlaw03_awake.mono : ∀ k, LeO (reelkeeperlaw03_awake.f k ) (reelkeeperlaw03_awake.f (k + 1) ) := by
  intro  k
  unfold reelkeeperlaw03_awake.f
  repeat' first
      | (with_reducible exact block_Zeros.mono _ _)
      | (with_reducible exact reelkeeperlaw03_long.mono _ _)
      | (with_reducible exact LeO.refl _)
      | (with_reducible exact LeO.none _)
      | (with_reducible refine LeO.ite ?_ ?_)
      | (with_reducible refine LeO.bind ?_ (fun _ => ?_))
      | exact block_Zeros.mono _ _
      | exact reelkeeperlaw03_long.mono _ _
      | exact LeO.none _
      | refine LeO.ite ?_ ?_
      | refine LeO.bind ?_ (fun _ => ?_)
set_option maxHeartbeats 8000000 in
set_option maxRecDepth 100000 in
theorem reelkeeperlaw03_awake.calls (k : Nat)  (r : Bool) (w : World) (h : reelkeeperlaw03_awake.f k  = some r) :
    Calls Try.prog 10 #[] w fun e w' => e = .returned (.bool r) ∧ Below w.heap.size w w' := by
  have HB := Aside0.mk (Below.refl w.heap.size w)
  have H : ((reelkeeperlaw03_long.f k 513).bind fun t117 => ((block_Cut.f t117).bind fun t118 => ((block_Text.f t118 513).bind fun bt121 => ((block_Many.f 513).bind fun t123 => (if t123 = 2 then (if (t118.length : Int) = 2 then ((block_May.f t118).bind fun t124 => (if t124 = true then (if 1 < (t118.length : Int) then (if 0 < ((rd_L1 t118 1).length : Int) then (if (rd (rd_L1 t118 1) 0) = 1 then (if 1 < ((rd_L1 t118 1).length : Int) then (if (rd (rd_L1 t118 1) 1) = 0 then (if bt121.2 = true then ((reelkeeperlaw03_long.f k 513).bind fun t129 => (if bt121.1.toList = t129.toList then ((block_Zero.f ([] : List Int)).bind fun t130 => (if t130 = true then ((block_Zeros.f k 2).bind fun t131 => (if (t131.length : Int) = 2 then ((block_Same.f t118 t118).bind fun t134 => (some t134)) else (none))) else (none))) else (none))) else (none)) else (none)) else (none)) else (none)) else (none)) else (none)) else (none))) else (none)) else (none)))))) = some r := h
  clear h
  replace H := Option.bind_eq_some_iff.mp H
  obtain ⟨t117, A10, H⟩ := H
  replace H : ((block_Cut.f t117).bind fun t118 => ((block_Text.f t118 513).bind fun bt121 => ((block_Many.f 513).bind fun t123 => (if t123 = 2 then (if (t118.length : Int) = 2 then ((block_May.f t118).bind fun t124 => (if t124 = true then (if 1 < (t118.length : Int) then (if 0 < ((rd_L1 t118 1).length : Int) then (if (rd (rd_L1 t118 1) 0) = 1 then (if 1 < ((rd_L1 t118 1).length : Int) then (if (rd (rd_L1 t118 1) 1) = 0 then (if bt121.2 = true then ((reelkeeperlaw03_long.f k 513).bind fun t129 => (if bt121.1.toList = t129.toList then ((block_Zero.f ([] : List Int)).bind fun t130 => (if t130 = true then ((block_Zeros.f k 2).bind fun t131 => (if (t131.length : Int) = 2 then ((block_Same.f t118 t118).bind fun t134 => (some t134)) else (none))) else (none))) else (none))) else (none)) else (none)) else (none)) else (none)) else (none)) else (none)) else (none))) else (none)) else (none))))) = some r := H
  have A1 := Aside0.mk A10
  clear A10
  replace H := Option.bind_eq_some_iff.mp H
  obtain ⟨t118, A20, H⟩ := H
  replace H : ((block_Text.f t118 513).bind fun bt121 => ((block_Many.f 513).bind fun t123 => (if t123 = 2 then (if (t118.length : Int) = 2 then ((block_May.f t118).bind fun t124 => (if t124 = true then (if 1 < (t118.length : Int) then (if 0 < ((rd_L1 t118 1).length : Int) then (if (rd (rd_L1 t118 1) 0) = 1 then (if 1 < ((rd_L1 t118 1).length : Int) then (if (rd (rd_L1 t118 1) 1) = 0 then (if bt121.2 = true then ((reelkeeperlaw03_long.f k 513).bind fun t129 => (if bt121.1.toList = t129.toList then ((block_Zero.f ([] : List Int)).bind fun t130 => (if t130 = true then ((block_Zeros.f k 2).bind fun t131 => (if (t131.length : Int) = 2 then ((block_Same.f t118 t118).bind fun t134 => (some t134)) else (none))) else (none))) else (none))) else (none)) else (none)) else (none)) else (none)) else (none)) else (none)) else (none))) else (none)) else (none)))) = some r := H
  have A2 := Aside0.mk A20
  clear A20
  replace H := Option.bind_eq_some_iff.mp H
  obtain ⟨⟨t121, t122⟩, A30, H⟩ := H
  replace H : ((block_Many.f 513).bind fun t123 => (if t123 = 2 then (if (t118.length : Int) = 2 then ((block_May.f t118).bind fun t124 => (if t124 = true then (if 1 < (t118.length : Int) then (if 0 < ((rd_L1 t118 1).length : Int) then (if (rd (rd_L1 t118 1) 0) = 1 then (if 1 < ((rd_L1 t118 1).length : Int) then (if (rd (rd_L1 t118 1) 1) = 0 then (if t122 = true then ((reelkeeperlaw03_long.f k 513).bind fun t129 => (if t121.toList = t129.toList then ((block_Zero.f ([] : List Int)).bind fun t130 => (if t130 = true then ((block_Zeros.f k 2).bind fun t131 => (if (t131.length : Int) = 2 then ((block_Same.f t118 t118).bind fun t134 => (some t134)) else (none))) else (none))) else (none))) else (none)) else (none)) else (none)) else (none)) else (none)) else (none)) else (none))) else (none)) else (none))) = some r := H
  have A3 := Aside0.mk A30
  clear A30
  replace H := Option.bind_eq_some_iff.mp H
  obtain ⟨t123, A40, H⟩ := H
  replace H : (if t123 = 2 then (if (t118.length : Int) = 2 then ((block_May.f t118).bind fun t124 => (if t124 = true then (if 1 < (t118.length : Int) then (if 0 < ((rd_L1 t118 1).length : Int) then (if (rd (rd_L1 t118 1) 0) = 1 then (if 1 < ((rd_L1 t118 1).length : Int) then (if (rd (rd_L1 t118 1) 1) = 0 then (if t122 = true then ((reelkeeperlaw03_long.f k 513).bind fun t129 => (if t121.toList = t129.toList then ((block_Zero.f ([] : List Int)).bind fun t130 => (if t130 = true then ((block_Zeros.f k 2).bind fun t131 => (if (t131.length : Int) = 2 then ((block_Same.f t118 t118).bind fun t134 => (some t134)) else (none))) else (none))) else (none))) else (none)) else (none)) else (none)) else (none)) else (none)) else (none)) else (none))) else (none)) else (none)) = some r := H
  have A4 := Aside0.mk A40
  clear A40
  by_cases c5 : t123 = 2
  · rw [if_pos c5] at H
    have c5b0 : (t123 == 2) = true := beq_iff_eq.mpr c5
    have c5b1 : (t123 != 2) = false := bne_eq_false_iff_eq.mpr c5
    clear c5
    by_cases c6 : (t118.length : Int) = 2
    · rw [if_pos c6] at H
      have c6b0 : ((t118.length : Int) == 2) = true := beq_iff_eq.mpr c6
      have c6b1 : ((t118.length : Int) != 2) = false := bne_eq_false_iff_eq.mpr c6
      clear c6
      replace H := Option.bind_eq_some_iff.mp H
      obtain ⟨t124, A70, H⟩ := H
      replace H : (if t124 = true then (if 1 < (t118.length : Int) then (if 0 < ((rd_L1 t118 1).length : Int) then (if (rd (rd_L1 t118 1) 0) = 1 then (if 1 < ((rd_L1 t118 1).length : Int) then (if (rd (rd_L1 t118 1) 1) = 0 then (if t122 = true then ((reelkeeperlaw03_long.f k 513).bind fun t129 => (if t121.toList = t129.toList then ((block_Zero.f ([] : List Int)).bind fun t130 => (if t130 = true then ((block_Zeros.f k 2).bind fun t131 => (if (t131.length : Int) = 2 then ((block_Same.f t118 t118).bind fun t134 => (some t134)) else (none))) else (none))) else (none))) else (none)) else (none)) else (none)) else (none)) else (none)) else (none)) else (none)) = some r := H
      have A7 := Aside0.mk A70
      clear A70
      by_cases c8 : t124 = true
      · subst c8
        have H1 : (if 1 < (t118.length : Int) then (if 0 < ((rd_L1 t118 1).length : Int) then (if (rd (rd_L1 t118 1) 0) = 1 then (if 1 < ((rd_L1 t118 1).length : Int) then (if (rd (rd_L1 t118 1) 1) = 0 then (if t122 = true then ((reelkeeperlaw03_long.f k 513).bind fun t129 => (if t121.toList = t129.toList then ((block_Zero.f ([] : List Int)).bind fun t130 => (if t130 = true then ((block_Zeros.f k 2).bind fun t131 => (if (t131.length : Int) = 2 then ((block_Same.f t118 t118).bind fun t134 => (some t134)) else (none))) else (none))) else (none))) else (none)) else (none)) else (none)) else (none)) else (none)) else (none)) = some r := by rw [if_pos rfl] at H; exact H
        clear H
        have H := H1
        clear H1
        by_cases c9 : 1 < (t118.length : Int)
        · rw [if_pos c9] at H
          have c9b0 : decide (1 < (t118.length : Int)) = true := decide_eq_true c9
          have c9b1 : decide (1 < t118.length) = true := decide_eq_true (by omega)
          clear c9
          by_cases c10 : 0 < ((rd_L1 t118 1).length : Int)
          · rw [if_pos c10] at H
            have c10b0 : decide (0 < ((rd_L1 t118 1).length : Int)) = true := decide_eq_true c10
            have c10b1 : decide (0 < (rd_L1 t118 1).length) = true := decide_eq_true (by omega)
            clear c10
            by_cases c11 : (rd (rd_L1 t118 1) 0) = 1
            · rw [if_pos c11] at H
              have c11b0 : ((rd (rd_L1 t118 1) 0) == 1) = true := beq_iff_eq.mpr c11
              have c11b1 : ((rd (rd_L1 t118 1) 0) != 1) = false := bne_eq_false_iff_eq.mpr c11
              clear c11
              by_cases c12 : 1 < ((rd_L1 t118 1).length : Int)
              · rw [if_pos c12] at H
                have c12b0 : decide (1 < ((rd_L1 t118 1).length : Int)) = true := decide_eq_true c12
                have c12b1 : decide (1 < (rd_L1 t118 1).length) = true := decide_eq_true (by omega)
                clear c12
                by_cases c13 : (rd (rd_L1 t118 1) 1) = 0
                · rw [if_pos c13] at H
                  have c13b0 : ((rd (rd_L1 t118 1) 1) == 0) = true := beq_iff_eq.mpr c13
                  have c13b1 : ((rd (rd_L1 t118 1) 1) != 0) = false := bne_eq_false_iff_eq.mpr c13
                  clear c13
                  by_cases c14 : t122 = true
                  · subst c14
                    have H1 : ((reelkeeperlaw03_long.f k 513).bind fun t129 => (if t121.toList = t129.toList then ((block_Zero.f ([] : List Int)).bind fun t130 => (if t130 = true then ((block_Zeros.f k 2).bind fun t131 => (if (t131.length : Int) = 2 then ((block_Same.f t118 t118).bind fun t134 => (some t134)) else (none))) else (none))) else (none))) = some r := by rw [if_pos rfl] at H; exact H
                    clear H
                    have H := H1
                    clear H1
                    replace H := Option.bind_eq_some_iff.mp H
                    obtain ⟨t129, A150, H⟩ := H
                    replace H : (if t121.toList = t129.toList then ((block_Zero.f ([] : List Int)).bind fun t130 => (if t130 = true then ((block_Zeros.f k 2).bind fun t131 => (if (t131.length : Int) = 2 then ((block_Same.f t118 t118).bind fun t134 => (some t134)) else (none))) else (none))) else (none)) = some r := H
                    have A15 := Aside0.mk A150
                    clear A150
                    by_cases c16 : t121.toList = t129.toList
                    · rw [if_pos c16] at H
                      have c16b0 : (t121.toList == t129.toList) = true := beq_iff_eq.mpr c16
                      have c16b1 : (t121.toList != t129.toList) = false := bne_eq_false_iff_eq.mpr c16
                      clear c16
                      replace H := Option.bind_eq_some_iff.mp H
                      obtain ⟨t130, A170, H⟩ := H
                      replace H : (if t130 = true then ((block_Zeros.f k 2).bind fun t131 => (if (t131.length : Int) = 2 then ((block_Same.f t118 t118).bind fun t134 => (some t134)) else (none))) else (none)) = some r := H
                      have A17 := Aside0.mk A170
                      clear A170
                      by_cases c18 : t130 = true
                      · subst c18
                        have H1 : ((block_Zeros.f k 2).bind fun t131 => (if (t131.length : Int) = 2 then ((block_Same.f t118 t118).bind fun t134 => (some t134)) else (none))) = some r := by rw [if_pos rfl] at H; exact H
                        clear H
                        have H := H1
                        clear H1
                        replace H := Option.bind_eq_some_iff.mp H
                        obtain ⟨t131, A190, H⟩ := H
                        replace H : (if (t131.length : Int) = 2 then ((block_Same.f t118 t118).bind fun t134 => (some t134)) else (none)) = some r := H
                        have A19 := Aside0.mk A190
                        clear A190
                        by_cases c20 : (t131.length : Int) = 2
                        · rw [if_pos c20] at H
                          have c20b0 : ((t131.length : Int) == 2) = true := beq_iff_eq.mpr c20
                          have c20b1 : ((t131.length : Int) != 2) = false := bne_eq_false_iff_eq.mpr c20
                          clear c20
                          replace H := Option.bind_eq_some_iff.mp H
                          obtain ⟨t134, A210, H⟩ := H
                          replace H : (some t134) = some r := H
                          have A21 := Aside0.mk A210
                          clear A210
                          obtain rfl := Option.some.inj H
                          go_enter Try.func10, Try.ntmps10
                          go_wp2_with (first | ((with_reducible refine gate_callee (f := 26) rfl ?_); refine goesL_ (some 4) rfl rfl Try.func26 (by kernel_rfl) rfl #[.int .i64 513] rfl (by (try simp only [List.map_toArray, List.map_cons, List.map_nil]); first | done | rfl | (simp only [List.length_drop, List.length_take]; rfl)) ?_; (with_reducible refine (reelkeeperlaw03_long.calls k 513 t117 _ A1.out).mono ?_); rintro e w22 ⟨rfl, hb⟩; refine ⟨_, rfl, ?_⟩; have n0_ := Aside0.mk (below_step (by repeat (first | (with_reducible first | exact HB.out | apply below_alloc | apply pw_below_drewN | apply below_drew1) | exact HB.out)) hb); clear HB; have HB := n0_; clear n0_; (try clear hb); (try clear hb2); (try clear hk); (try clear hi)) | ((with_reducible refine gate_callee (f := 15) rfl ?_); refine goesL_ (some 5) rfl rfl Try.func15 (by kernel_rfl) rfl #[.string t117] rfl (by (try simp only [List.map_toArray, List.map_cons, List.map_nil]); first | done | rfl | (simp only [List.length_drop, List.length_take]; rfl)) ?_; (with_reducible refine (block_Cut.calls t117 t118 _ A2.out).mono ?_); rintro e w23 ⟨v119, rfl, ho0, hb⟩; refine ⟨_, rfl, ?_⟩; have n0_ := Aside0.mk (Kd.S_lower ho0 (below_size (by repeat (first | (with_reducible first | exact HB.out | apply below_alloc | apply pw_below_drewN | apply below_drew1) | exact HB.out)))); have n1_ := Aside0.mk (below_step (by repeat (first | (with_reducible first | exact HB.out | apply below_alloc | apply pw_below_drewN | apply below_drew1) | exact HB.out)) hb); clear HB; have HO120 := n0_; have HB := n1_; clear n0_ n1_; (try clear hb); (try clear hb2); (try clear hk); (try clear hi); (try clear ho0); obtain ⟨Ao24, co24, eo24⟩ := Kd.S_slice HO120.out; subst eo24) | ((with_reducible refine gate_callee (f := 12) rfl ?_); refine goesL_ (some 8) rfl rfl Try.func12 (by kernel_rfl) rfl #[.slice Ao24 t118.length co24, .int .i64 513] rfl (by (try simp only [List.map_toArray, List.map_cons, List.map_nil]); first | done | rfl | (simp only [List.length_drop, List.length_take]; rfl)) ?_; (with_reducible refine (block_Text.calls _ _ t118 513 t121 true _ ?side1 ?side2 A3.out).mono ?_); (case side1 => repeat (first | exact (Kd.S_reads' HO120.out).2.2 | (with_reducible refine Kd.C_alloc ?_ _) | (with_reducible refine Kd.C_drewN ?_ _) | (with_reducible refine Kd.C_drew ?_))); (case side2 => exact (Kd.S_reads' HO120.out).2.1); rintro e w25 ⟨rfl, hb⟩; refine ⟨_, rfl, ?_⟩; have n0_ := Aside0.mk (Kd.S_below (by (with_reducible repeat (first | apply Kd.S_alloc | apply Kd.S_drewN | apply Kd.S_drew)); exact HO120.out) hb); have n1_ := Aside0.mk (below_step (by repeat (first | (with_reducible first | exact HB.out | apply below_alloc | apply pw_below_drewN | apply below_drew1) | exact HB.out)) hb); clear HO120; clear HB; have HO120 := n0_; have HB := n1_; clear n0_ n1_; (try clear hb); (try clear hb2); (try clear hk); (try clear hi)) | ((with_reducible refine gate_callee (f := 21) rfl ?_); refine goesL_ (some 11) rfl rfl Try.func21 (by kernel_rfl) rfl #[.int .i64 513] rfl (by (try simp only [List.map_toArray, List.map_cons, List.map_nil]); first | done | rfl | (simp only [List.length_drop, List.length_take]; rfl)) ?_; (with_reducible refine (block_Many.calls 513 t123 _ A4.out).mono ?_); rintro e w' ⟨rfl, ⟨nd, rfl⟩⟩; refine ⟨_, rfl, ?_⟩) | (go_at_call 23; (with_reducible refine (block_May.calls _ _ t118 true _ ?side1 ?side2 A7.out).mono ?_); (case side1 => repeat (first | exact (Kd.S_reads' HO120.out).2.2 | (with_reducible refine Kd.C_alloc ?_ _) | (with_reducible refine Kd.C_drewN ?_ _) | (with_reducible refine Kd.C_drew ?_))); (case side2 => exact (Kd.S_reads' HO120.out).2.1); rintro e w' ⟨rfl, ⟨nd, rfl⟩⟩; have p125 : 0 ≤ (1 : Int) := (by omega); have q125 : 1 < (t118.length : Int) := of_decide_eq_true (by first | (with_reducible assumption) | assumption); obtain ⟨ad125, A125_0, c125_0, e125, hx125_0, hl125_0, hi125_0⟩ := at_L1 (Kd.S_reads' HO120.out).2.2 1 p125 q125; cases e125; obtain ⟨ce125, hce125, hMe125, hcc125⟩ := Kd.S_get HO120.out [] 1 p125 (by first | exact q125 | exact of_decide_eq_true (by first | (with_reducible assumption) | assumption) | (have e_ := (Kd.S_reads' HO120.out).1; omega)); obtain ⟨ve125_0, rfl, ge125_0⟩ := hMe125; have hv125_0 := hcc125 0 _ rfl; rw [Nat.add_zero, show ((Kd.slice 5 (Kd.int .u8))).sz = 1 from rfl, Nat.mul_one] at hv125_0; replace hv125_0 := Option.some.inj (hv125_0.symm.trans hx125_0); rw [hv125_0] at ge125_0; have HL125_0 := Aside0.mk (show Kd.R (Kd.int .u8) 5 _ _ _ _ (rd_L1 t118 1) from ge125_0); clear hv125_0 ge125_0; clear hcc125 hce125; (try simp only [show (1 : Int).toNat = 1 from rfl, Nat.reduceMul, Nat.reduceEqDiff, Go.Addr.add, ↓reduceIte] at hx125_0); have qi125 : (1 < t118.length) = True := eq_true (by omega); (try rw [show ((1 : Int)).toNat = 1 from rfl] at hx125_0); have HR125_0 := Aside0.mk hi125_0; have HC125_0 := Aside0.mk hl125_0; clear hi125_0 hl125_0; replace p125 := eq_true p125; replace q125 := eq_true q125; have p126 : 0 ≤ (0 : Int) := (by omega); have q126 : 0 < ((rd_L1 t118 1).length : Int) := of_decide_eq_true (by first | (with_reducible assumption) | assumption); obtain ⟨ad126, e126, hx126_0⟩ := Kd.at_int (by repeat (first | (with_reducible exact HR125_0.out) | (with_reducible refine Kd.C_alloc ?_ _) | (with_reducible refine Kd.C_drewN ?_ _) | (with_reducible refine Kd.C_drew ?_) | exact HR125_0.out)) 0 p126 q126; cases e126; have qi126 : (0 < (rd_L1 t118 1).length) = True := eq_true (by omega); (try rw [show ((0 : Int)).toNat = 0 from rfl] at hx126_0); (try rw [Addr.add_zero'] at hx126_0); replace p126 := eq_true p126; replace q126 := eq_true q126; have p127 : 0 ≤ (1 : Int) := (by omega); have q127 : 1 < (t118.length : Int) := of_decide_eq_true (by first | (with_reducible assumption) | assumption); obtain ⟨ad127, A127_0, c127_0, e127, hx127_0, hl127_0, hi127_0⟩ := at_L1 (Kd.S_reads' HO120.out).2.2 1 p127 q127; obtain rfl : ad125 = ad127 := (by injection e127); obtain ⟨ce127, hce127, hMe127, hcc127⟩ := Kd.S_get HO120.out [] 1 p127 (by first | exact q127 | exact of_decide_eq_true (by first | (with_reducible assumption) | assumption) | (have e_ := (Kd.S_reads' HO120.out).1; omega)); obtain ⟨ve127_0, rfl, ge127_0⟩ := hMe127; have hv127_0 := hcc127 0 _ rfl; rw [Nat.add_zero, show ((Kd.slice 5 (Kd.int .u8))).sz = 1 from rfl, Nat.mul_one] at hv127_0; replace hv127_0 := Option.some.inj (hv127_0.symm.trans hx127_0); rw [hv127_0] at ge127_0; have HL127_0 := Aside0.mk (show Kd.R (Kd.int .u8) 5 _ _ _ _ (rd_L1 t118 1) from ge127_0); clear hv127_0 ge127_0; clear hcc127 hce127; (try simp only [show (1 : Int).toNat = 1 from rfl, Nat.reduceMul, Nat.reduceEqDiff, Go.Addr.add, ↓reduceIte] at hx127_0); have qi127 : (1 < t118.length) = True := eq_true (by omega); (try rw [show ((1 : Int)).toNat = 1 from rfl] at hx127_0); have HR127_0 := Aside0.mk hi127_0; have HC127_0 := Aside0.mk hl127_0; clear hi127_0 hl127_0; replace p127 := eq_true p127; replace q127 := eq_true q127; have ea_ := Option.some.inj (hx125_0.symm.trans hx127_0); injection ea_ with ea_ en_ ec_; subst ea_; subst ec_; clear en_; have p128 : 0 ≤ (1 : Int) := (by omega); have q128 : 1 < ((rd_L1 t118 1).length : Int) := of_decide_eq_true (by first | (with_reducible assumption) | assumption); obtain ⟨ad128, e128, hx128_0⟩ := Kd.at_int (by repeat (first | (with_reducible exact HR127_0.out) | (with_reducible refine Kd.C_alloc ?_ _) | (with_reducible refine Kd.C_drewN ?_ _) | (with_reducible refine Kd.C_drew ?_) | exact HR127_0.out)) 1 p128 q128; cases e128; (try simp only [show (1 : Int).toNat = 1 from rfl, Nat.reduceMul, Nat.reduceEqDiff, Go.Addr.add, ↓reduceIte] at hx128_0); have qi128 : (1 < (rd_L1 t118 1).length) = True := eq_true (by omega); (try rw [show ((1 : Int)).toNat = 1 from rfl] at hx128_0); replace p128 := eq_true p128; replace q128 := eq_true q128) | (go_at_call 26; (with_reducible refine (reelkeeperlaw03_long.calls k 513 t129 _ A15.out).mono ?_); rintro e w26 ⟨rfl, hb⟩; have n0_ := Aside0.mk (Kd.S_below (by (with_reducible repeat (first | apply Kd.S_alloc | apply Kd.S_drewN | apply Kd.S_drew)); exact HO120.out) hb); have n1_ := Aside0.mk (Kd.R_below (by (with_reducible repeat (first | apply Kd.R_alloc | apply Kd.R_drewN | apply Kd.R_drew)); exact HL125_0.out) hb); have n2_ := Aside0.mk (Kd.R_below (by (with_reducible repeat (first | apply Kd.R_alloc | apply Kd.R_drewN | apply Kd.R_drew)); exact HL127_0.out) hb); have n3_ := Aside0.mk (Kd.C_below (by repeat (first | (with_reducible exact HR125_0.out) | (with_reducible refine Kd.C_alloc ?_ _) | (with_reducible refine Kd.C_drewN ?_ _) | (with_reducible refine Kd.C_drew ?_) | exact HR125_0.out)) hb); have n4_ := Aside0.mk (Kd.C_below (by repeat (first | (with_reducible exact HR127_0.out) | (with_reducible refine Kd.C_alloc ?_ _) | (with_reducible refine Kd.C_drewN ?_ _) | (with_reducible refine Kd.C_drew ?_) | exact HR127_0.out)) hb); have n5_ := Aside0.mk (below_step (by repeat (first | (with_reducible first | exact HB.out | apply below_alloc | apply pw_below_drewN | apply below_drew1) | exact HB.out)) hb); clear HO120; clear HL125_0; clear HL127_0; clear HR125_0; clear HR127_0; clear HB; have HO120 := n0_; have HL125_0 := n1_; have HL127_0 := n2_; have HR125_0 := n3_; have HR127_0 := n4_; have HB := n5_; clear n0_ n1_ n2_ n3_ n4_ n5_; (try clear hb); (try clear hb2); (try clear hk); (try clear hi)) | (go_at_call 25; (refine (block_Zero.calls _ _ ([] : List Int) true _ ?side1 ?side2 A17.out).mono ?_); (case side1 => exact Kd.C_nil _ _); (case side2 => exact Nat.le_refl _); rintro e w' ⟨rfl, ⟨nd, rfl⟩⟩) | (go_at_call 17; (with_reducible refine (block_Zeros.calls k 2 t131 _ A19.out).mono ?_); rintro e w27 ⟨v132, rfl, ho0, hb⟩; have n0_ := Aside0.mk (Kd.S_elder' (by (with_reducible repeat (first | apply Kd.S_alloc | apply Kd.S_drewN | apply Kd.S_drew)); exact HO120.out) (Kd.S_base ho0) hb); have n1_ := Aside0.mk (Kd.R_below (by (with_reducible repeat (first | apply Kd.R_alloc | apply Kd.R_drewN | apply Kd.R_drew)); exact HL125_0.out) hb); have n2_ := Aside0.mk (Kd.R_below (by (with_reducible repeat (first | apply Kd.R_alloc | apply Kd.R_drewN | apply Kd.R_drew)); exact HL127_0.out) hb); have n3_ := Aside0.mk (Kd.S_lower (Kd.S_new' (Kd.S_new' (Kd.S_new' ho0 (Kd.S_lt (by (with_reducible repeat (first | apply Kd.S_alloc | apply Kd.S_drewN | apply Kd.S_drew)); exact HO120.out))) (Kd.R_lt (by (with_reducible repeat (first | apply Kd.R_alloc | apply Kd.R_drewN | apply Kd.R_drew)); exact HL125_0.out))) (Kd.R_lt (by (with_reducible repeat (first | apply Kd.R_alloc | apply Kd.R_drewN | apply Kd.R_drew)); exact HL127_0.out))) (below_size (by repeat (first | (with_reducible first | exact HB.out | apply below_alloc | apply pw_below_drewN | apply below_drew1) | exact HB.out)))); have n4_ := Aside0.mk (Kd.C_below (by repeat (first | (with_reducible exact HR125_0.out) | (with_reducible refine Kd.C_alloc ?_ _) | (with_reducible refine Kd.C_drewN ?_ _) | (with_reducible refine Kd.C_drew ?_) | exact HR125_0.out)) hb); have n5_ := Aside0.mk (Kd.C_below (by repeat (first | (with_reducible exact HR127_0.out) | (with_reducible refine Kd.C_alloc ?_ _) | (with_reducible refine Kd.C_drewN ?_ _) | (with_reducible refine Kd.C_drew ?_) | exact HR127_0.out)) hb); have n6_ := Aside0.mk (below_step (by repeat (first | (with_reducible first | exact HB.out | apply below_alloc | apply pw_below_drewN | apply below_drew1) | exact HB.out)) hb); clear HO120; clear HL125_0; clear HL127_0; clear HR125_0; clear HR127_0; clear HB; have HO120 := n0_; have HL125_0 := n1_; have HL127_0 := n2_; have HO133 := n3_; have HR125_0 := n4_; have HR127_0 := n5_; have HB := n6_; clear n0_ n1_ n2_ n3_ n4_ n5_ n6_; (try clear hb); (try clear hb2); (try clear hk); (try clear hi); (try clear ho0); obtain ⟨Ao28, co28, eo28⟩ := Kd.S_slice HO133.out; subst eo28) | (go_at_call 24; (with_reducible refine (block_Same.calls _ _ t118 _ _ t118 t134 _ ?side1 ?side2 ?side3 ?side4 A21.out).mono ?_); (case side1 => repeat (first | exact (Kd.S_reads' HO120.out).2.2 | (with_reducible refine Kd.C_alloc ?_ _) | (with_reducible refine Kd.C_drewN ?_ _) | (with_reducible refine Kd.C_drew ?_))); (case side2 => exact (Kd.S_reads' HO120.out).2.1); (case side3 => repeat (first | exact (Kd.S_reads' HO120.out).2.2 | (with_reducible refine Kd.C_alloc ?_ _) | (with_reducible refine Kd.C_drewN ?_ _) | (with_reducible refine Kd.C_drew ?_))); (case side4 => exact (Kd.S_reads' HO120.out).2.1); rintro e w' ⟨rfl, ⟨nd, rfl⟩⟩))
                          go_ret
                          exact ⟨by first | rfl | (simp [errW_none, errW_some] <;> rfl) | (simp [*, errW_none, errW_some] <;> rfl), by repeat (first | (with_reducible first | exact HB.out | apply below_alloc | apply pw_below_drewN | apply below_drew1) | exact HB.out)⟩
                        · rw [if_neg c20] at H
                          exact absurd H (by simp)
                      · replace c18 := Bool.eq_false_iff.mpr c18
                        subst c18
                        have H1 : (none) = some r := by rw [if_neg (show ¬ (false = true) by decide)] at H; exact H
                        clear H
                        have H := H1
                        clear H1
                        exact absurd H (by simp)
                    · rw [if_neg c16] at H
                      exact absurd H (by simp)
                  · replace c14 := Bool.eq_false_iff.mpr c14
                    subst c14
                    have H1 : (none) = some r := by rw [if_neg (show ¬ (false = true) by decide)] at H; exact H
                    clear H
                    have H := H1
                    clear H1
                    exact absurd H (by simp)
                · rw [if_neg c13] at H
                  exact absurd H (by simp)
              · rw [if_neg c12] at H
                exact absurd H (by simp)
            · rw [if_neg c11] at H
              exact absurd H (by simp)
          · rw [if_neg c10] at H
            exact absurd H (by simp)
        · rw [if_neg c9] at H
          exact absurd H (by simp)
      · replace c8 := Bool.eq_false_iff.mpr c8
        subst c8
        have H1 : (none) = some r := by rw [if_neg (show ¬ (false = true) by decide)] at H; exact H
        clear H
        have H := H1
        clear H1
        exact absurd H (by simp)
    · rw [if_neg c6] at H
      exact absurd H (by simp)
  · rw [if_neg c5] at H
    exact absurd H (by simp)

end Go.Proofs.Ytdbnglmcimckmaa.M
