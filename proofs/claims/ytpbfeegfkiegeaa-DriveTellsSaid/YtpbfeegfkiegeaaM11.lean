/- Part of a claim: what some functions of the program compute, each with its contract; no condition of its own. Written by a program of this workplace (gen.py, over the print of the kit) and by hand. -/
import Derived.Test.YtpbfeegfkiegeaaM0
import Derived.Test.YtpbfeegfkiegeaaM5
import Derived.Test.YtpbfeegfkiegeaaM7
import Derived.Test.YtpbfeegfkiegeaaM9
import Derived.Test.YtpbfeegfkiegeaaM10
namespace Go.Proofs.Ytpbfeegfkiegeaa.M
open Go.RowKit Go.Proofs.YtpbfeegfkiegeaaW.PrintWords Go.Proofs.YtpbfeegfkiegeaaW.PrintLast Go.Proofs.YtpbfeegfkiegeaaW.PrintMore
attribute [local go_sem] max2_int min2_int max_two min_two max_three min_three max_four min_four   -- for this text's walks alone
set_option linter.unusedVariables false
set_option linter.unusedSimpArgs false

def tape_Read.f (a0_0 : Int) (l0_1 : List (List Int)) (a0_2 : Bool) (a1 : Int) : Option (List Int × Int) := (tape_May.f a0_0 l0_1 a0_2).bind fun t135 => (if t135 = true then (if a1 < 0 then (some (([] : List Int), 9)) else (if a1 ≥ (l0_1.length : Int) then (some (([] : List Int), 8)) else (if 0 ≤ a1 then (if a1 < (l0_1.length : Int) then ((slices_Clone_byte_byte_55.f (rd_L1 l0_1 a1)).bind fun t137 => (some (t137, 0))) else (none)) else (none)))) else (some (([] : List Int), 1)))
set_option maxHeartbeats 8000000 in
set_option maxRecDepth 100000 in
theorem tape_Read.calls (a0_0 : Int) (A0_1 : Option Addr) (c0_1 : Nat) (l0_1 : List (List Int)) (a0_2 : Bool) (a1 : Int) (r1 : List Int) (r2 : Int) (w : World) (hr0_1 : Kd.C (Kd.slice 5 (Kd.int .u8)) w A0_1 l0_1.length l0_1) (hc0_1 : l0_1.length ≤ c0_1) (h : tape_Read.f a0_0 l0_1 a0_2 a1 = some (r1, r2)) :
  Calls Try.prog 29 #[.agg #[.int .i64 a0_0, .slice A0_1 l0_1.length c0_1, .bool a0_2], .int .i64 a1] w fun e w' => ∃ v0_ : Value, e = .returned (.tuple #[v0_, .int .i64 r2]) ∧ Kd.R (Kd.int .u8) 5 w' w.heap.size (fun _ => True) v0_ r1 ∧ Below w.heap.size w w' := by
 have hu41 := Try.underlying41; have HR0_1 := zA hr0_1; have HC0_1 := zA hc0_1; clear hr0_1 hc0_1; have HB := zA (Below.refl w.heap.size w); have H : ((tape_May.f a0_0 l0_1 a0_2).bind fun t135 => (if t135 = true then (if a1 < 0 then (some (([] : List Int), 9)) else (if a1 ≥ (l0_1.length : Int) then (some (([] : List Int), 8)) else (if 0 ≤ a1 then (if a1 < (l0_1.length : Int) then ((slices_Clone_byte_byte_55.f (rd_L1 l0_1 a1)).bind fun t137 => (some (t137, 0))) else (none)) else (none)))) else (some (([] : List Int), 1)))) = some (r1, r2) := h; clear h; replace H := Option.bind_eq_some_iff.mp H; obtain ⟨t135, A30, H⟩ := H; replace H : (if t135 = true then (if a1 < 0 then (some (([] : List Int), 9)) else (if a1 ≥ (l0_1.length : Int) then (some (([] : List Int), 8)) else (if 0 ≤ a1 then (if a1 < (l0_1.length : Int) then ((slices_Clone_byte_byte_55.f (rd_L1 l0_1 a1)).bind fun t137 => (some (t137, 0))) else (none)) else (none)))) else (some (([] : List Int), 1))) = some (r1, r2) := H; have A3 := zA A30; clear A30
 by_cases c4 : t135 = true
 ·subst c4
  have H1 : (if a1 < 0 then (some (([] : List Int), 9)) else (if a1 ≥ (l0_1.length : Int) then (some (([] : List Int), 8)) else (if 0 ≤ a1 then (if a1 < (l0_1.length : Int) then ((slices_Clone_byte_byte_55.f (rd_L1 l0_1 a1)).bind fun t137 => (some (t137, 0))) else (none)) else (none)))) = some (r1, r2) := by rw [if_pos rfl] at H; exact H
  clear H; have H := H1; clear H1
  by_cases c5 : a1 < 0
  ·rw [if_pos c5] at H
   have c5b0 : decide (a1 < 0) = true := decide_eq_true c5; clear c5
   simp only [Option.some.injEq, Prod.mk.injEq] at H
   obtain ⟨rfl, rfl⟩ := H
   go_enter Try.func29, Try.ntmps29
   go_wp2_with (first | ((with_reducible refine gate_dst (N := 2) rfl ?_); refine box_event ?hg (N := 2) ?hd (cs := #[.int .i64 a0_0, .slice A0_1 l0_1.length c0_1, .bool a0_2]) (t := 41) ?hr ?_; (case hd => rfl); (case hg => rfl); (case hr => first | (go_simp; done) | (go_simp; rfl)); intro gb134 hg w6 hbox hb; have BK134 := zA (hbox); have GE134 := zA (gW HB.out hg); replace HB := zA (below_step HB.out hb); clear hb hbox hg; obtain ⟨hcz7_0, hcz7_1, hcz7_2, hfz7_0, hfz7_1, hfz7_2⟩ := b6 BK134.out) | ((with_reducible refine gate_callee (f := 52) rfl ?_); refine goesL_ (some 8) rfl rfl Try.func52 (by kernel_rfl) rfl #[.agg #[.int .i64 a0_0, .slice A0_1 l0_1.length c0_1, .bool a0_2]] rfl (by (try simp only [List.map_toArray, List.map_cons, List.map_nil]); first | done | rfl | (simp only [List.length_drop, List.length_take]; rfl)) ?_; (with_reducible refine (tape_May.calls a0_0 _ _ l0_1 a0_2 true _ ?side1 ?side2 A3.out).mono ?_); (case side1 => repeat (first | exact (Kd.C_below HR0_1.out HB.out) | (with_reducible refine Kd.C_alloc ?_ _) | (with_reducible refine Kd.C_drewN ?_ _) | (with_reducible refine Kd.C_drew ?_))); (case side2 => exact HC0_1.out); rintro e w8 ⟨rfl, hb⟩; refine ⟨_, rfl, ?_⟩; replace BK134 := zA (bK BK134.out hb); replace HB := zA (below_step HB.out hb); (try clear hb); (try clear hb2); (try clear hk); (try clear hi)))
   go_ret2
   exact ⟨_, by first | rfl | (simp [errW_none, errW_some] <;> rfl) | (simp [*, errW_none, errW_some] <;> rfl), by first | exact Kd.R_nil _ _ _ _ _ | exact Kd.N_nil _ _ _ _ _ | exact Kd.V_nil _ _ _ _ _ | exact Kd.Q_nil _ _ _ _ _ | exact Kd.S_nil _ _ _ _ _, by repeat (first | (with_reducible first | exact HB.out | apply bL | apply bP | apply bD | refine bS ?_ GE134.out) | exact HB.out)⟩
  ·rw [if_neg c5] at H
   have c5b0 : decide (a1 < 0) = false := decide_eq_false c5; clear c5
   by_cases c9 : a1 ≥ (l0_1.length : Int)
   ·rw [if_pos c9] at H
    have c9b0 : decide ((l0_1.length : Int) ≤ a1) = true := decide_eq_true c9; clear c9
    simp only [Option.some.injEq, Prod.mk.injEq] at H
    obtain ⟨rfl, rfl⟩ := H
    go_enter Try.func29, Try.ntmps29
    go_wp2_with (first | ((with_reducible refine gate_dst (N := 2) rfl ?_); refine box_event ?hg (N := 2) ?hd (cs := #[.int .i64 a0_0, .slice A0_1 l0_1.length c0_1, .bool a0_2]) (t := 41) ?hr ?_; (case hd => rfl); (case hg => rfl); (case hr => first | (go_simp; done) | (go_simp; rfl)); intro gb134 hg w10 hbox hb; have BK134 := zA (hbox); have GE134 := zA (gW HB.out hg); replace HB := zA (below_step HB.out hb); clear hb hbox hg; obtain ⟨hcz11_0, hcz11_1, hcz11_2, hfz11_0, hfz11_1, hfz11_2⟩ := b6 BK134.out) | ((with_reducible refine gate_callee (f := 52) rfl ?_); refine goesL_ (some 8) rfl rfl Try.func52 (by kernel_rfl) rfl #[.agg #[.int .i64 a0_0, .slice A0_1 l0_1.length c0_1, .bool a0_2]] rfl (by (try simp only [List.map_toArray, List.map_cons, List.map_nil]); first | done | rfl | (simp only [List.length_drop, List.length_take]; rfl)) ?_; (with_reducible refine (tape_May.calls a0_0 _ _ l0_1 a0_2 true _ ?side1 ?side2 A3.out).mono ?_); (case side1 => repeat (first | exact (Kd.C_below HR0_1.out HB.out) | (with_reducible refine Kd.C_alloc ?_ _) | (with_reducible refine Kd.C_drewN ?_ _) | (with_reducible refine Kd.C_drew ?_))); (case side2 => exact HC0_1.out); rintro e w12 ⟨rfl, hb⟩; refine ⟨_, rfl, ?_⟩; replace BK134 := zA (bK BK134.out hb); replace HB := zA (below_step HB.out hb); (try clear hb); (try clear hb2); (try clear hk); (try clear hi); obtain ⟨hcz13_0, hcz13_1, hcz13_2, hfz13_0, hfz13_1, hfz13_2⟩ := b6 BK134.out))
    go_ret2
    exact ⟨_, by first | rfl | (simp [errW_none, errW_some] <;> rfl) | (simp [*, errW_none, errW_some] <;> rfl), by first | exact Kd.R_nil _ _ _ _ _ | exact Kd.N_nil _ _ _ _ _ | exact Kd.V_nil _ _ _ _ _ | exact Kd.Q_nil _ _ _ _ _ | exact Kd.S_nil _ _ _ _ _, by repeat (first | (with_reducible first | exact HB.out | apply bL | apply bP | apply bD | refine bS ?_ GE134.out) | exact HB.out)⟩
   ·rw [if_neg c9] at H
    have c9b0 : decide ((l0_1.length : Int) ≤ a1) = false := decide_eq_false c9; clear c9
    by_cases c14 : 0 ≤ a1
    ·rw [if_pos c14] at H
     have c14b0 : decide (0 ≤ a1) = true := decide_eq_true c14; clear c14
     by_cases c15 : a1 < (l0_1.length : Int)
     ·rw [if_pos c15] at H
      have c15b0 : decide (a1 < (l0_1.length : Int)) = true := decide_eq_true c15; clear c15; replace H := Option.bind_eq_some_iff.mp H; obtain ⟨t137, A160, H⟩ := H; replace H : (some (t137, 0)) = some (r1, r2) := H; have A16 := zA A160; clear A160
      simp only [Option.some.injEq, Prod.mk.injEq] at H
      obtain ⟨rfl, rfl⟩ := H
      go_enter Try.func29, Try.ntmps29
      go_wp2_with (first | ((with_reducible refine gate_dst (N := 2) rfl ?_); refine box_event ?hg (N := 2) ?hd (cs := #[.int .i64 a0_0, .slice A0_1 l0_1.length c0_1, .bool a0_2]) (t := 41) ?hr ?_; (case hd => rfl); (case hg => rfl); (case hr => first | (go_simp; done) | (go_simp; rfl)); intro gb134 hg w17 hbox hb; have BK134 := zA (hbox); have GE134 := zA (gW HB.out hg); replace HB := zA (below_step HB.out hb); clear hb hbox hg; obtain ⟨hcz18_0, hcz18_1, hcz18_2, hfz18_0, hfz18_1, hfz18_2⟩ := b6 BK134.out) | ((with_reducible refine gate_callee (f := 52) rfl ?_); refine goesL_ (some 8) rfl rfl Try.func52 (by kernel_rfl) rfl #[.agg #[.int .i64 a0_0, .slice A0_1 l0_1.length c0_1, .bool a0_2]] rfl (by (try simp only [List.map_toArray, List.map_cons, List.map_nil]); first | done | rfl | (simp only [List.length_drop, List.length_take]; rfl)) ?_; (with_reducible refine (tape_May.calls a0_0 _ _ l0_1 a0_2 true _ ?side1 ?side2 A3.out).mono ?_); (case side1 => repeat (first | exact (Kd.C_below HR0_1.out HB.out) | (with_reducible refine Kd.C_alloc ?_ _) | (with_reducible refine Kd.C_drewN ?_ _) | (with_reducible refine Kd.C_drew ?_))); (case side2 => exact HC0_1.out); rintro e w19 ⟨rfl, hb⟩; refine ⟨_, rfl, ?_⟩; replace BK134 := zA (bK BK134.out hb); replace HB := zA (below_step HB.out hb); (try clear hb); (try clear hb2); (try clear hk); (try clear hi); obtain ⟨hcz20_0, hcz20_1, hcz20_2, hfz20_0, hfz20_1, hfz20_2⟩ := b6 BK134.out; have p136 : 0 ≤ (a1 : Int) := of_decide_eq_true (by assumption); have q136 : a1 < (l0_1.length : Int) := of_decide_eq_true (by assumption); obtain ⟨ad136, A136_0, c136_0, e136, hx136_0, hl136_0, hi136_0⟩ := at_L1 HR0_1.out a1 p136 q136; cases e136; replace hx136_0 := (HB.out.cell (World.block_lt_of_cell? w _ hx136_0)).trans hx136_0; have HR136_0 := zA hi136_0; have HC136_0 := zA hl136_0; clear hi136_0 hl136_0; replace p136 := eq_true p136; replace q136 := eq_true q136) | ((with_reducible refine gate_callee (f := 55) rfl ?_); refine goesL_ (some 24) rfl rfl Try.func55 (by kernel_rfl) rfl #[.slice A136_0 (rd_L1 l0_1 a1).length c136_0] rfl (by (try simp only [List.map_toArray, List.map_cons, List.map_nil]); first | done | rfl | (simp only [List.length_drop, List.length_take]; rfl)) ?_; (with_reducible refine (slices_Clone_byte_byte_55.calls _ _ (rd_L1 l0_1 a1) t137 _ ?side1 ?side2 A16.out).mono ?_); (case side1 => repeat (first | exact (Kd.C_below HR136_0.out HB.out) | (with_reducible refine Kd.C_alloc ?_ _) | (with_reducible refine Kd.C_drewN ?_ _) | (with_reducible refine Kd.C_drew ?_))); (case side2 => exact HC136_0.out); rintro e w21 ⟨v138, rfl, ho0, hb⟩; refine ⟨_, rfl, ?_⟩; have HO139 := zA (Kd.R_lower ho0 (below_size (by repeat (first | (with_reducible first | exact HB.out | apply bL | apply bP | apply bD | refine bS ?_ GE134.out) | exact HB.out)))); replace BK134 := zA (bK BK134.out hb); replace HB := zA (below_step HB.out hb); (try clear hb); (try clear hb2); (try clear hk); (try clear hi); (try clear ho0)))
      go_ret2
      exact ⟨_, by first | rfl | (simp [errW_none, errW_some] <;> rfl) | (simp [*, errW_none, errW_some] <;> rfl), by exact HO139.out, by repeat (first | (with_reducible first | exact HB.out | apply bL | apply bP | apply bD | refine bS ?_ GE134.out) | exact HB.out)⟩
     ·rw [if_neg c15] at H
      exact absurd H (by simp)
    ·rw [if_neg c14] at H
     exact absurd H (by simp)
 ·replace c4 := Bool.eq_false_iff.mpr c4
  subst c4
  have H1 : (some (([] : List Int), 1)) = some (r1, r2) := by rw [if_neg (show ¬ (false = true) by decide)] at H; exact H
  clear H; have H := H1; clear H1
  simp only [Option.some.injEq, Prod.mk.injEq] at H
  obtain ⟨rfl, rfl⟩ := H
  go_enter Try.func29, Try.ntmps29
  go_wp2_with (first | ((with_reducible refine gate_dst (N := 2) rfl ?_); refine box_event ?hg (N := 2) ?hd (cs := #[.int .i64 a0_0, .slice A0_1 l0_1.length c0_1, .bool a0_2]) (t := 41) ?hr ?_; (case hd => rfl); (case hg => rfl); (case hr => first | (go_simp; done) | (go_simp; rfl)); intro gb134 hg w22 hbox hb; have BK134 := zA (hbox); have GE134 := zA (gW HB.out hg); replace HB := zA (below_step HB.out hb); clear hb hbox hg; obtain ⟨hcz23_0, hcz23_1, hcz23_2, hfz23_0, hfz23_1, hfz23_2⟩ := b6 BK134.out) | ((with_reducible refine gate_callee (f := 52) rfl ?_); refine goesL_ (some 8) rfl rfl Try.func52 (by kernel_rfl) rfl #[.agg #[.int .i64 a0_0, .slice A0_1 l0_1.length c0_1, .bool a0_2]] rfl (by (try simp only [List.map_toArray, List.map_cons, List.map_nil]); first | done | rfl | (simp only [List.length_drop, List.length_take]; rfl)) ?_; (with_reducible refine (tape_May.calls a0_0 _ _ l0_1 a0_2 false _ ?side1 ?side2 A3.out).mono ?_); (case side1 => repeat (first | exact (Kd.C_below HR0_1.out HB.out) | (with_reducible refine Kd.C_alloc ?_ _) | (with_reducible refine Kd.C_drewN ?_ _) | (with_reducible refine Kd.C_drew ?_))); (case side2 => exact HC0_1.out); rintro e w24 ⟨rfl, hb⟩; refine ⟨_, rfl, ?_⟩; replace HB := zA (below_step HB.out hb); (try clear hb); (try clear hb2); (try clear hk); (try clear hi)))
  go_ret2
  exact ⟨_, by first | rfl | (simp [errW_none, errW_some] <;> rfl) | (simp [*, errW_none, errW_some] <;> rfl), by first | exact Kd.R_nil _ _ _ _ _ | exact Kd.N_nil _ _ _ _ _ | exact Kd.V_nil _ _ _ _ _ | exact Kd.Q_nil _ _ _ _ _ | exact Kd.S_nil _ _ _ _ _, by repeat (first | (with_reducible first | exact HB.out | apply bL | apply bP | apply bD | refine bS ?_ GE134.out) | exact HB.out)⟩

def RdEx (rb N : Nat) (r' : List Int) (W' : World) : Prop := ∃ A c, W'.heap[rb]? = some (.cells #[.slice A r'.length c] 25 (0, 0)) ∧ r'.length ≤ c ∧ Kd.F (Kd.int .u8) W' (fun k => N + 2 ≤ k) A r'.length r'
theorem RdEx.step {rb N : Nat} {r' : List Int} {W W' : World} (h : RdEx rb N r' W) (hr : rb < N) (hm : ∀ k, k < W.heap.size → k ≠ N + 1 → W'.heap[k]? = W.heap[k]?) : RdEx rb N r' W' := by
  obtain ⟨A, c, hb, hc, hF⟩ := h
  exact ⟨A, c, (hm rb (blk_lt hb) (by omega)).trans hb, hc, Kd.F_step hF (fun k hk hlt => hm k hlt (by omega))⟩
set_option maxHeartbeats 8000000 in
set_option maxRecDepth 100000 in
theorem way_read (w : World) (l : List S41) (i p : Int) (hl : l.length ≤ 1000000) (h0 : 0 ≤ i) (h1 : i < (l.length : Int)) (hp0 : 0 ≤ p) (hp1 : p ≤ 1000000) (r' : List Int) (er : Int)
    (rb : Nat) (hrb : w.heap[rb]? = some (.cells #[.slice none 0 0] 25 (0, 0))) (hrd : tape_Read.f (rd_T41 l i).f0 (rd_T41 l i).f1 (rd_T41 l i).f2 p = some (r', er)) :
    Way 47 #[.pointer (some ⟨rb, 0, none⟩)] w (fun k => k = rb) l i p er l i (p + 1) (RdEx rb w.heap.size r') := by
  intro W0 W h A c hB hc hD hW0 hh hBW hb
  show Calls Try.prog 47 #[.pointer (some ⟨h, 0, none⟩), .pointer (some ⟨rb, 0, none⟩)] W _
  obtain ⟨g, cur, hA, hg, hbg, hx⟩ := hD (by omega)
  subst hA
  obtain ⟨A1, c1, e0, e1, e2, hl1, hF1⟩ := (hx i.toNat _ (rd_at h0 h1)).1 (by omega)
  have hgW := (hBW.block g (blk_lt hg)).trans hg
  have q0 : W.cell? ⟨g, i.toNat * 3, none⟩ = some (.int .i64 (rd_T41 l i).f0) := (blk_cell hgW _).trans e0
  have q1' : W.cell? ⟨g, i.toNat * 3 + 1, none⟩ = some (.slice A1 (rd_T41 l i).f1.length c1) := (blk_cell hgW _).trans e1
  have q2' : W.cell? ⟨g, i.toNat * 3 + 2, none⟩ = some (.bool (rd_T41 l i).f2) := (blk_cell hgW _).trans e2
  have hk0 := (blk_cell hb 0).trans rfl
  have hk1 := (blk_cell hb 1).trans rfl
  have hk2 := (blk_cell hb 2).trans rfl
  have HC1 := Aside0.mk (Kd.F_now (Kd.F_step hF1 (fun k hk hlt => hBW.block k hlt)))
  have HL1 := Aside0.mk hl1
  have HGW := Aside0.mk hgW
  have HE := Aside0.mk (And.intro e0 (And.intro e1 e2))
  have HGL := Aside0.mk (show g < h by have := blk_lt hg; omega)
  have HHL := Aside0.mk (blk_lt hb)
  have HB := Aside0.mk hB
  have HC := Aside0.mk hc
  have HD := Aside0.mk hD
  have HW0 := Aside0.mk hW0
  have HH := Aside0.mk hh
  have HBW := Aside0.mk hBW
  have HK := Aside0.mk hb
  have HL := Aside0.mk hl
  have HBG := Aside0.mk hbg
  have HRD := Aside0.mk hrd
  have HI := Aside0.mk (And.intro h0 h1)
  have p1 := eq_true h0
  have p2 := eq_true h1
  have n1 : g ≠ h := by have := blk_lt hg; omega
  have n2 := Ne.symm n1
  have hrbW := (hB.block rb (blk_lt hrb)).trans hrb
  have HRB := Aside0.mk hrbW
  have HP := Aside0.mk (And.intro hp0 hp1)
  have HRG := Aside0.mk (show rb < w.heap.size from blk_lt hrb)
  have pp0 := hp0
  have pp1 := hp1
  have n3 : rb ≠ h := by have := blk_lt hrb; omega
  have n4 := Ne.symm n3
  have n5 : g ≠ rb := by have := blk_lt hrb; omega
  have n6 := Ne.symm n5
  clear hB hc hD hW0 hh hBW hb hl h0 h1 hrd e0 e1 e2 hl1 hF1 hgW hg hbg hx hrb hrbW hp0 hp1
  go_enter Try.func47, Try.ntmps47
  have HQ0 := Aside0.mk (And.intro n4 hk0)
  have HQ1 := Aside0.mk (And.intro n4 hk1)
  have HQ2 := Aside0.mk (And.intro n4 hk2)
  have HQ3 := Aside0.mk (And.intro n5 q0)
  have HQ4 := Aside0.mk (And.intro n5 q1')
  have HQ5 := Aside0.mk (And.intro n5 q2')
  clear hk0 hk1 hk2 q0 q1' q2'
  go_wp2
  go_region_held3 (fun w' => w'.cell? ⟨h, 0, none⟩ = some (.slice (some ⟨g, 0, none⟩) l.length c) ∧ w'.cell? ⟨h, 1, none⟩ = some (.int .i64 i) ∧ w'.cell? ⟨h, 2, none⟩ = some (.int .i64 p) ∧ w'.cell? ⟨g, i.toNat * 3, none⟩ = some (.int .i64 (rd_T41 l i).f0) ∧ w'.cell? ⟨g, i.toNat * 3 + 1, none⟩ = some (.slice A1 (rd_T41 l i).f1.length c1) ∧ w'.cell? ⟨g, i.toNat * 3 + 2, none⟩ = some (.bool (rd_T41 l i).f2))
    ((refine held6 (X := fun k => k = rb) (W := W) ?_ HQ0.out HQ1.out HQ2.out HQ3.out HQ4.out HQ5.out; (with_reducible repeat (first | exact HBK.out | exact Kp.refl _ _ | refine Kp.set ?_ (.inl (Eq.refl rb)) _ | refine Kp.drew ?_))))
    (first | (go_at_call 29; refine (tape_Read.calls _ A1 c1 _ _ p _ _ W.drew (Kd.C_drew HC1.out) HL1.out HRD.out).mono ?_; rintro e w5 ⟨v5, rfl, hR5, hb5⟩; obtain ⟨A5, c5, he5⟩ := Kd.R_slice hR5; subst he5; have hw5 := below_step (Below.drew (Below.refl W.heap.size W)) hb5; have HV5 := Aside0.mk (show Kd.V (Kd.int .u8) 5 w5 0 (fun k => W.heap.size ≤ k) (.slice A5 r'.length c5) r' from Kd.R_V (Kd.R_mono (Kd.R_bound hR5) (fun k hk => hk.2.1))); have HB5 := Aside0.mk hw5; have HBK := Aside0.mk (Kp.below (Kp.refl (fun k => k = rb) W) hw5); have br := blk_below HRB.out hw5; have BR5 := Aside0.mk br; have kr := (blk_cell br 0).trans rfl; have fr := blk_frozen br 0; have bh := blk_below HK.out hw5; have hk2 := (blk_cell bh 2).trans rfl; have hf2 := blk_frozen bh 2; clear hR5 hb5 hw5 br bh))
  all_goals (
    go_wp2
    go_ret
    have h10 : (w5.setCell ⟨rb, 0, none⟩ (.slice A5 r'.length c5)).heap[h]? = some (.cells #[.slice (some ⟨g, 0, none⟩) l.length c, .int .i64 i, .int .i64 p] 61 (0, 0)) := (Below.heap_setCell w5 ⟨rb, 0, none⟩ _ h n4).trans (blk_below HK.out HB5.out)
    have hhw : h < W.heap.size := HHL.out
    refine ⟨by first | rfl | (simp; done), blk_put h10 2 (.int .i64 (p + 1)) rfl, fun _ => ?_, ?_, ?_⟩
    · refine half_kept HD.out HL.out HC.out (fun k hk hlt => ?_)
      have e1 : k ≠ h := by have := HW0.out; omega
      have e2 : k ≠ rb := by have := HRG.out; omega
      rw [Below.heap_setCell _ ⟨h, 2, none⟩ _ k e1, Below.heap_setCell _ ⟨rb, 0, none⟩ _ k e2]
      exact (HB5.out.block k (by have := HW0.out; have := HHL.out; omega)).trans (HBW.out.block k hlt)
    · exact BelowX.set (X := fun k => k = rb) (p := ⟨h, 2, none⟩) (BelowX.set (X := fun k => k = rb) (p := ⟨rb, 0, none⟩) (BelowX.of (HB5.out.mono (show w.heap.size + 2 ≤ W.heap.size by have := HH.out; have := HHL.out; omega))) (.inr rfl) _) (.inl HH.out) _
    · exact ⟨A5, c5, blk_far (blk_put BR5.out 0 (.slice A5 r'.length c5) rfl) n3 _, (Kd.V_at HV5.out).2.1, Kd.F_mono (Kd.F_far (p := ⟨h, 2, none⟩) (Kd.F_far (p := ⟨rb, 0, none⟩) (Kd.V_F HV5.out) (fun k hk => by show k ≠ rb; have := HRG.out; have := HH.out; omega) _) (fun k hk => by show k ≠ h; omega) _) (fun k hk => by have := HH.out; omega)⟩)

def tape_Write.f (a0_0 : Int) (l0_1 : List (List Int)) (a0_2 : Bool) (l1 : List Int) : Option (Int × List (List Int) × Bool × Int) :=
  (tape_Fill.f a0_0 l0_1 a0_2 [l1]).bind fun q => some (q.1, q.2.1, q.2.2.1, q.2.2.2.2)
theorem C_one {W : World} {A : Option Addr} {c : Nat} {l : List Int} (hr : Kd.C (Kd.int .u8) W A l.length l) (hc : l.length ≤ c) :
    Kd.C (Kd.slice 5 (Kd.int .u8)) (W.alloc (.cells #[.slice A l.length c] 25)) (some ⟨W.heap.size, 0, none⟩) [l].length [l] := by
  refine ⟨rfl, by show 1 ≤ 9223372036854775807; decide, fun _ => ⟨_, rfl, fun j p hj => ?_⟩⟩
  have hj0 : j = 0 := by have := (List.getElem?_eq_some_iff.1 hj).1; simp at this; exact this
  subst hj0
  have hp : l = p := by simpa using hj
  subst hp
  refine ⟨[.slice A l.length c], rfl, ⟨A, c, rfl, hc, Kd.C_alloc hr _⟩, fun i u hu => ?_⟩
  have hi : i = 0 := by have := (List.getElem?_eq_some_iff.1 hu).1; simp at this; exact this
  subst hi
  rw [show (0 * (Kd.slice 5 (Kd.int .u8)).sz + 0) = 0 by simp, add_plain, blk_cell (blk_new W (.cells #[.slice A l.length c] 25)) 0]
  simpa using hu
set_option maxHeartbeats 8000000 in
set_option maxRecDepth 100000 in
theorem tape_Write.calls (a0_0 : Int) (A0_1 : Option Addr) (c0_1 : Nat) (l0_1 : List (List Int)) (a0_2 : Bool) (A1 : Option Addr) (c1 : Nat) (l1 : List Int) (r1 : Int) (r2 : List (List Int)) (r3 : Bool) (r4 : Int) (w : World) (hr0_1 : Kd.C (Kd.slice 5 (Kd.int .u8)) w A0_1 l0_1.length l0_1) (hc0_1 : l0_1.length ≤ c0_1)
    (hr1 : Kd.C (Kd.int .u8) w A1 l1.length l1) (hc1 : l1.length ≤ c1) (h : tape_Write.f a0_0 l0_1 a0_2 l1 = some (r1, r2, r3, r4)) :
    Calls Try.prog 41 #[.agg #[.int .i64 a0_0, .slice A0_1 l0_1.length c0_1, .bool a0_2], .slice A1 l1.length c1] w fun e w' => ∃ v1_ : Value, e = .returned (.tuple #[.agg #[.int .i64 r1, v1_, .bool r3], .int .i64 r4]) ∧ Kd.S (Kd.slice 5 (Kd.int .u8)) 25 w' w.heap.size (fun _ => True) v1_ r2 ∧ Below w.heap.size w w' := by
  unfold tape_Write.f at h
  obtain ⟨⟨q1, q2, q3, q4, q5⟩, hF, h⟩ := Option.bind_eq_some_iff.1 h
  simp only [Option.some.injEq, Prod.mk.injEq] at h
  obtain ⟨rfl, rfl, rfl, rfl⟩ := h
  have hB0 := below_alloc (below_alloc (Below.refl w.heap.size w) (.cells #[.int .i64 a0_0, .slice A0_1 l0_1.length c0_1, .bool a0_2] 41)) (.cells #[.int .i64 0, .slice none 0 0, .bool false] 41)
  have bk1 := blk_alloc (blk_new w (.cells #[.int .i64 a0_0, .slice A0_1 l0_1.length c0_1, .bool a0_2] 41)) (.cells #[.int .i64 0, .slice none 0 0, .bool false] 41)
  have bk2 := blk_new (w.alloc (.cells #[.int .i64 a0_0, .slice A0_1 l0_1.length c0_1, .bool a0_2] 41)) (.cells #[.int .i64 0, .slice none 0 0, .bool false] 41)
  rw [show (w.alloc (.cells #[.int .i64 a0_0, .slice A0_1 l0_1.length c0_1, .bool a0_2] 41)).heap.size = w.heap.size + 1 by simp] at bk2
  have hC0 := Kd.C_alloc (Kd.C_alloc hr0_1 (.cells #[.int .i64 a0_0, .slice A0_1 l0_1.length c0_1, .bool a0_2] 41)) (.cells #[.int .i64 0, .slice none 0 0, .bool false] 41)
  have hC1 := C_one (Kd.C_alloc (Kd.C_alloc hr1 (.cells #[.int .i64 a0_0, .slice A0_1 l0_1.length c0_1, .bool a0_2] 41)) (.cells #[.int .i64 0, .slice none 0 0, .bool false] 41)) hc1
  have hws : ((w.alloc (.cells #[.int .i64 a0_0, .slice A0_1 l0_1.length c0_1, .bool a0_2] 41)).alloc (.cells #[.int .i64 0, .slice none 0 0, .bool false] 41)).heap.size = w.heap.size + 2 := by simp
  rw [show ((w.alloc (.cells #[.int .i64 a0_0, .slice A0_1 l0_1.length c0_1, .bool a0_2] 41)).alloc (.cells #[.int .i64 0, .slice none 0 0, .bool false] 41)).heap.size = w.heap.size + 1 + 1 by simp] at hC1
  have k10 := blk_cell bk1 0
  have k11 := blk_cell bk1 1
  have k12 := blk_cell bk1 2
  have HWS := Aside0.mk hws
  have HB0 := Aside0.mk (below_alloc hB0 (.cells #[.slice A1 l1.length c1] 25))
  have HC0 := Aside0.mk (Kd.C_alloc hC0 (.cells #[.slice A1 l1.length c1] 25))
  have HC1 := Aside0.mk hC1
  have HC01 := Aside0.mk hc0_1
  have HF := Aside0.mk hF
  have BK2 := Aside0.mk (blk_alloc bk2 (.cells #[.slice A1 l1.length c1] 25))
  clear hB0 hC0 hC1 hws bk1 bk2 hr0_1 hr1 hF
  go_enter Try.func41, Try.ntmps41
  go_wp2_with (first | (go_at_call 61; refine (tape_Fill.says a0_0 A0_1 c0_1 l0_1 a0_2 _ 1 [l1] q1 q2 q3 q4 q5 _ HC0.out HC01.out HC1.out (Nat.le_refl _) HF.out).mono ?_; rintro e w3 ⟨v, rfl, hS, hb⟩; obtain ⟨A4, c4, he⟩ := Kd.S_slice hS; subst he; have HS4 := Aside0.mk hS; have HB3 := Aside0.mk (below_step HB0.out hb); have BK23 := Aside0.mk (blk_below BK2.out hb); clear hS hb k10 k11 k12) | ((with_reducible refine gate_dst (N := 6) rfl ?_); refine box_event ?hg (N := 6) ?hd (cs := #[.int .i64 0, .slice none 0 0, .bool false]) (t := 41) ?hr ?_; (case hd => rfl); (case hg => rfl); (case hr => first | (go_simp; done) | (go_simp; rfl)); intro g6 hg w6 hbox hb; have HG6 := Aside0.mk hg; have HB36 := Aside0.mk hb; have hn : g6 ≠ w.heap.size + 1 := (by have := blk_lt BK23.out; omega); have hn2 := Ne.symm hn; have hb2 := blk_below BK23.out hb; have BK26 := Aside0.mk hb2; have BK66 := Aside0.mk hbox; have k60 : w6.cell? ⟨g6, 0, none⟩ = some (.int .i64 0) := (blk_cell hbox 0).trans rfl; have k61 : w6.cell? ⟨g6, 1, none⟩ = some (.slice none 0 0) := (blk_cell hbox 1).trans rfl; have k62 : w6.cell? ⟨g6, 2, none⟩ = some (.bool false) := (blk_cell hbox 2).trans rfl; have k20 : w6.cell? ⟨w.heap.size + 1, 0, none⟩ = some (.int .i64 0) := (blk_cell hb2 0).trans rfl; have k21 : w6.cell? ⟨w.heap.size + 1, 1, none⟩ = some (.slice none 0 0) := (blk_cell hb2 1).trans rfl; have k22 : w6.cell? ⟨w.heap.size + 1, 2, none⟩ = some (.bool false) := (blk_cell hb2 2).trans rfl; have f60 := blk_frozen hbox 0; have f61 := blk_frozen hbox 1; have f62 := blk_frozen hbox 2; have f20 := blk_frozen hb2 0; have f21 := blk_frozen hb2 1; have f22 := blk_frozen hb2 2; clear hbox hb hb2 hg))
  have hk := three_put (u0 := .int .i64 q1) (u1 := .slice A4 q2.length c4) (u2 := .bool q3) (show (((w6.setCell ⟨g6, 0, none⟩ (.int .i64 q1)).setCell ⟨g6, 1, none⟩ (.slice A4 q2.length c4)).setCell ⟨g6, 2, none⟩ (.bool q3)).heap[w.heap.size + 1]? = _ from (three_heap hn2).trans BK26.out)
  refine bodyPost_ret (results_ct rfl _ _ (w.heap.size + 1) 41 _ (0, 0) _ rfl hk Try.underlying41 rfl (by kernel_rfl)) rfl ?_
  have hw6 : w.heap.size ≤ g6 := by have h1 := HB3.out.size; have h2 := HG6.out; omega
  refine ⟨_, rfl, S_past HS4.out (by have := HB0.out.size; omega) (fun k hk hlt => ?_), three_below (three_below (below_step HB3.out HB36.out) hw6) (by omega)⟩
  have hk2 : w.heap.size + 2 ≤ k := by
    have h1 := HWS.out
    have h2 : (((w.alloc (.cells #[.int .i64 a0_0, .slice A0_1 l0_1.length c0_1, .bool a0_2] 41)).alloc (.cells #[.int .i64 0, .slice none 0 0, .bool false] 41)).alloc (.cells #[.slice A1 l1.length c1] 25)).heap.size ≤ k := hk
    simp at h2
    omega
  rw [three_heap (by omega : k ≠ w.heap.size + 1), three_heap (by have := HG6.out; omega : k ≠ g6)]
  exact HB36.out.block k hlt

end Go.Proofs.Ytpbfeegfkiegeaa.M
