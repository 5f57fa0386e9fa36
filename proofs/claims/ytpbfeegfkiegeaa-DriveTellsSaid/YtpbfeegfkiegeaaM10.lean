/- Part of a claim: what some functions of the program compute, each with its contract; no condition of its own. Written by a program of this workplace (gen.py, over the print of the kit) and by hand. -/
import Derived.Test.YtpbfeegfkiegeaaM0
import Derived.Test.YtpbfeegfkiegeaaM2
import Derived.Test.YtpbfeegfkiegeaaM3
import Derived.Test.YtpbfeegfkiegeaaM5
import Derived.Test.YtpbfeegfkiegeaaM6
import Derived.Test.YtpbfeegfkiegeaaM7
import Derived.Test.YtpbfeegfkiegeaaM8
import Derived.Test.YtpbfeegfkiegeaaM9
namespace Go.Proofs.Ytpbfeegfkiegeaa.M
open Go.RowKit Go.Proofs.YtpbfeegfkiegeaaW.PrintWords Go.Proofs.YtpbfeegfkiegeaaW.PrintLast Go.Proofs.YtpbfeegfkiegeaaW.PrintMore
attribute [local go_sem] max2_int min2_int max_two min_two max_three min_three max_four min_four   -- for this text's walks alone
set_option linter.unusedVariables false
set_option linter.unusedSimpArgs false

def tape_Close.f (a0_0 : Int) (l0_1 : List (List Int)) (a0_2 : Bool) : Option (Int × (List (List Int)) × Bool × Int) := (tape_own.f a0_0 l0_1 a0_2).bind fun bt113 => ((tape_May.f a0_0 l0_1 a0_2).bind fun t119 => (if t119 = true then (if a0_2 = true then (some (bt113.1, bt113.2.1, bt113.2.2, 8)) else (some (bt113.1, bt113.2.1, true, 0))) else (some (bt113.1, bt113.2.1, bt113.2.2, 1))))
set_option maxHeartbeats 8000000 in
set_option maxRecDepth 100000 in
theorem tape_Close.calls (a0_0 : Int) (A0_1 : Option Addr) (c0_1 : Nat) (l0_1 : List (List Int)) (a0_2 : Bool) (r1 : Int) (r2 : List (List Int)) (r3 : Bool) (r4 : Int) (w : World) (hr0_1 : Kd.C (Kd.slice 5 (Kd.int .u8)) w A0_1 l0_1.length l0_1) (hc0_1 : l0_1.length ≤ c0_1) (h : tape_Close.f a0_0 l0_1 a0_2 = some (r1, r2, r3, r4)) :
  Calls Try.prog 63 #[.agg #[.int .i64 a0_0, .slice A0_1 l0_1.length c0_1, .bool a0_2]] w fun e w' => ∃ v1_ : Value, e = .returned (.tuple #[.agg #[.int .i64 r1, v1_, .bool r3], .int .i64 r4]) ∧ Kd.S (Kd.slice 5 (Kd.int .u8)) 25 w' w.heap.size (fun _ => True) v1_ r2 ∧ Below w.heap.size w w' := by
 have hu41 := Try.underlying41; have HR0_1 := zA hr0_1; have HC0_1 := zA hc0_1; clear hr0_1 hc0_1; have HB := zA (Below.refl w.heap.size w); have H : ((tape_own.f a0_0 l0_1 a0_2).bind fun bt113 => ((tape_May.f a0_0 l0_1 a0_2).bind fun t119 => (if t119 = true then (if a0_2 = true then (some (bt113.1, bt113.2.1, bt113.2.2, 8)) else (some (bt113.1, bt113.2.1, true, 0))) else (some (bt113.1, bt113.2.1, bt113.2.2, 1))))) = some (r1, r2, r3, r4) := h; clear h; replace H := Option.bind_eq_some_iff.mp H; obtain ⟨⟨t113, t114, t117⟩, A20, H⟩ := H; replace H : ((tape_May.f a0_0 l0_1 a0_2).bind fun t119 => (if t119 = true then (if a0_2 = true then (some (t113, t114, t117, 8)) else (some (t113, t114, true, 0))) else (some (t113, t114, t117, 1)))) = some (r1, r2, r3, r4) := H; have A2 := zA A20; clear A20; replace H := Option.bind_eq_some_iff.mp H; obtain ⟨t119, A30, H⟩ := H; replace H : (if t119 = true then (if a0_2 = true then (some (t113, t114, t117, 8)) else (some (t113, t114, true, 0))) else (some (t113, t114, t117, 1))) = some (r1, r2, r3, r4) := H; have A3 := zA A30; clear A30
 by_cases c4 : t119 = true
 ·subst c4
  have H1 : (if a0_2 = true then (some (t113, t114, t117, 8)) else (some (t113, t114, true, 0))) = some (r1, r2, r3, r4) := by rw [if_pos rfl] at H; exact H
  clear H; have H := H1; clear H1
  by_cases c5 : a0_2 = true
  ·subst c5
   have H1 : (some (t113, t114, t117, 8)) = some (r1, r2, r3, r4) := by rw [if_pos rfl] at H; exact H
   clear H; have H := H1; clear H1
   simp only [Option.some.injEq, Prod.mk.injEq] at H
   obtain ⟨rfl, rfl, rfl, rfl⟩ := H
   go_enter Try.func63, Try.ntmps63
   go_wp2_with (first | ((with_reducible refine gate_dst (N := 1) rfl ?_); refine box_event ?hg (N := 1) ?hd (cs := #[.int .i64 a0_0, .slice A0_1 l0_1.length c0_1, .bool true]) (t := 41) ?hr ?_; (case hd => rfl); (case hg => rfl); (case hr => first | (go_simp; done) | (go_simp; rfl)); intro gb111 hg w6 hbox hb; have BK111 := zA (hbox); have GE111 := zA (gW HB.out hg); replace HB := zA (below_step HB.out hb); clear hb hbox hg) | ((with_reducible refine gate_dst (N := 2) rfl ?_); refine box_event ?hg (N := 2) ?hd (cs := #[.int .i64 0, .slice none 0 0, .bool false]) (t := 41) ?hr ?_; (case hd => rfl); (case hg => rfl); (case hr => first | (go_simp; done) | (go_simp; rfl)); intro gb112 hg w7 hbox hb; have BK112 := zA (hbox); have GE112 := zA (gW HB.out hg); replace HB := zA (below_step HB.out hb); have NB111_112 := zA (gL BK111.out hg); have NB112_111 := zA (gG BK111.out hg); replace BK111 := zA (bK BK111.out hb); clear hb hbox hg; have hnb8 := NB111_112.out; have hnc8 := NB112_111.out; obtain ⟨hcz9_0, hcz9_1, hcz9_2, hfz9_0, hfz9_1, hfz9_2⟩ := b6 BK111.out) | ((with_reducible refine gate_callee (f := 60) rfl ?_); refine goesL_ (some 6) rfl rfl Try.func60 (by kernel_rfl) rfl #[.agg #[.int .i64 a0_0, .slice A0_1 l0_1.length c0_1, .bool true]] rfl (by (try simp only [List.map_toArray, List.map_cons, List.map_nil]); first | done | rfl | (simp only [List.length_drop, List.length_take]; rfl)) ?_; (with_reducible refine (tape_own.calls a0_0 _ _ l0_1 true t113 t114 t117 _ ?side1 ?side2 A2.out).mono ?_); (case side1 => repeat (first | exact (Kd.C_below HR0_1.out HB.out) | (with_reducible refine Kd.C_alloc ?_ _) | (with_reducible refine Kd.C_drewN ?_ _) | (with_reducible refine Kd.C_drew ?_))); (case side2 => exact HC0_1.out); rintro e w10 ⟨v115, rfl, ho0, hb⟩; refine ⟨_, rfl, ?_⟩; have HO116 := zA (Kd.S_lower ho0 (below_size (by repeat (first | (with_reducible first | exact HB.out | apply bL | apply bP | apply bD | refine bS ?_ GE111.out | refine bS ?_ GE112.out) | exact HB.out)))); replace BK111 := zA (bK BK111.out hb); replace BK112 := zA (bK BK112.out hb); replace HB := zA (below_step HB.out hb); (try clear hb); (try clear hb2); (try clear hk); (try clear hi); (try clear ho0)) | ((with_reducible refine gate_dst (N := 4) rfl ?_); refine box_event ?hg (N := 4) ?hd (cs := #[.int .i64 0, .slice none 0 0, .bool false]) (t := 41) ?hr ?_; (case hd => rfl); (case hg => rfl); (case hr => first | (go_simp; done) | (go_simp; rfl)); intro gb118 hg w11 hbox hb; replace HO116 := zA (Kd.S_below HO116.out hb); have BK118 := zA (hbox); have GE118 := zA (gW HB.out hg); replace HB := zA (below_step HB.out hb); have NB111_118 := zA (gL BK111.out hg); have NB118_111 := zA (gG BK111.out hg); replace BK111 := zA (bK BK111.out hb); have NB112_118 := zA (gL BK112.out hg); have NB118_112 := zA (gG BK112.out hg); replace BK112 := zA (bK BK112.out hb); clear hb hbox hg; have hnb12 := NB118_111.out; have hnc12 := NB111_118.out; have hnb13 := NB118_112.out; have hnc13 := NB112_118.out; obtain ⟨hcz14_0, hcz14_1, hcz14_2, hfz14_0, hfz14_1, hfz14_2⟩ := b6 BK118.out; obtain ⟨Ao15, co15, eo15⟩ := Kd.S_slice HO116.out; subst eo15; obtain ⟨hcz16_0, hcz16_1, hcz16_2, hfz16_0, hfz16_1, hfz16_2⟩ := b6 BK111.out) | ((with_reducible refine gate_callee (f := 52) rfl ?_); refine goesL_ (some 9) rfl rfl Try.func52 (by kernel_rfl) rfl #[.agg #[.int .i64 a0_0, .slice A0_1 l0_1.length c0_1, .bool true]] rfl (by (try simp only [List.map_toArray, List.map_cons, List.map_nil]); first | done | rfl | (simp only [List.length_drop, List.length_take]; rfl)) ?_; (with_reducible refine (tape_May.calls a0_0 _ _ l0_1 true true _ ?side1 ?side2 A3.out).mono ?_); (case side1 => exact Kd.C_below HR0_1.out (by repeat (first | (with_reducible first | exact HB.out | apply bL | apply bP | apply bD | refine bS ?_ GE111.out | refine bS ?_ GE112.out | refine bS ?_ GE118.out) | exact HB.out))); (case side2 => exact HC0_1.out); rintro e w17 ⟨rfl, hb⟩; refine ⟨_, rfl, ?_⟩; replace HO116 := zA (Kd.S_below (by exact (Kd.S_mono (Kd.S_far (p := ⟨gb118, 2, none⟩) (Kd.S_far (p := ⟨gb118, 1, none⟩) (Kd.S_far (p := ⟨gb118, 0, none⟩) (Kd.S_types HO116.out BK118.out (by decide)) (fun _ hk => hk.2) (.int .i64 t113)) (fun _ hk => hk.2) (.slice Ao15 t114.length co15)) (fun _ hk => hk.2) (.bool t117)) (fun _ h_ => h_.1))) hb); replace BK111 := zA (bK (g := gb111) (o := .cells #[.int .i64 a0_0, .slice A0_1 l0_1.length c0_1, .bool true] 41 (0, 0)) (by refine blk_far ?_ NB111_118.out _; refine blk_far ?_ NB111_118.out _; refine blk_far ?_ NB111_118.out _; exact BK111.out) hb); replace BK112 := zA (bK (g := gb112) (o := .cells #[.int .i64 0, .slice none 0 0, .bool false] 41 (0, 0)) (by refine blk_far ?_ NB112_118.out _; refine blk_far ?_ NB112_118.out _; refine blk_far ?_ NB112_118.out _; exact BK112.out) hb); replace BK118 := zA (bK (g := gb118) (o := .cells #[.int .i64 t113, .slice Ao15 t114.length co15, .bool t117] 41 (0, 0)) (by refine blk_put (cs := #[.int .i64 t113, .slice Ao15 t114.length co15, .bool false]) ?_ 2 _ rfl; refine blk_put (cs := #[.int .i64 t113, .slice none 0 0, .bool false]) ?_ 1 _ rfl; refine blk_put (cs := #[.int .i64 0, .slice none 0 0, .bool false]) ?_ 0 _ rfl; exact BK118.out) hb); replace HB := zA (below_step (by repeat (first | (with_reducible first | exact HB.out | apply bL | apply bP | apply bD | refine bS ?_ GE111.out | refine bS ?_ GE112.out | refine bS ?_ GE118.out) | exact HB.out)) hb); (try clear hb); (try clear hb2); (try clear hk); (try clear hi); obtain ⟨hcz18_0, hcz18_1, hcz18_2, hfz18_0, hfz18_1, hfz18_2⟩ := b6 BK111.out; obtain ⟨hcz19_0, hcz19_1, hcz19_2, hfz19_0, hfz19_1, hfz19_2⟩ := b6 BK118.out; obtain ⟨hcz20_0, hcz20_1, hcz20_2, hfz20_0, hfz20_1, hfz20_2⟩ := b6 BK112.out))
   refine bodyPost_ret (results_ct rfl _ _ gb112 41 #[.int .i64 t113, .slice Ao15 t114.length co15, .bool t117] (0, 0) _ rfl (by refine blk_put (cs := #[.int .i64 t113, .slice Ao15 t114.length co15, .bool false]) ?_ 2 _ rfl; refine blk_put (cs := #[.int .i64 t113, .slice none 0 0, .bool false]) ?_ 1 _ rfl; refine blk_put (cs := #[.int .i64 0, .slice none 0 0, .bool false]) ?_ 0 _ rfl; exact BK112.out) Try.underlying41 rfl (by kernel_rfl)) rfl ?_; exact ⟨_, by first | rfl | (simp [errW_none, errW_some] <;> rfl) | (simp [*, errW_none, errW_some] <;> rfl), by exact Kd.S_mono (Kd.S_far (p := ⟨gb112, 2, none⟩) (Kd.S_far (p := ⟨gb112, 1, none⟩) (Kd.S_far (p := ⟨gb112, 0, none⟩) (Kd.S_types HO116.out BK112.out (by decide)) (fun _ hk => hk.2) (.int .i64 t113)) (fun _ hk => hk.2) (.slice Ao15 t114.length co15)) (fun _ hk => hk.2) (.bool t117)) (fun _ hk => trivial), by repeat (first | (with_reducible first | exact HB.out | apply bL | apply bP | apply bD | refine bS ?_ GE111.out | refine bS ?_ GE112.out | refine bS ?_ GE118.out) | exact HB.out)⟩
  ·replace c5 := Bool.eq_false_iff.mpr c5
   subst c5
   have H1 : (some (t113, t114, true, 0)) = some (r1, r2, r3, r4) := by rw [if_neg (show ¬ (false = true) by decide)] at H; exact H
   clear H; have H := H1; clear H1
   simp only [Option.some.injEq, Prod.mk.injEq] at H
   obtain ⟨rfl, rfl, rfl, rfl⟩ := H
   go_enter Try.func63, Try.ntmps63
   go_wp2_with (first | ((with_reducible refine gate_dst (N := 1) rfl ?_); refine box_event ?hg (N := 1) ?hd (cs := #[.int .i64 a0_0, .slice A0_1 l0_1.length c0_1, .bool false]) (t := 41) ?hr ?_; (case hd => rfl); (case hg => rfl); (case hr => first | (go_simp; done) | (go_simp; rfl)); intro gb111 hg w21 hbox hb; have BK111 := zA (hbox); have GE111 := zA (gW HB.out hg); replace HB := zA (below_step HB.out hb); clear hb hbox hg) | ((with_reducible refine gate_dst (N := 2) rfl ?_); refine box_event ?hg (N := 2) ?hd (cs := #[.int .i64 0, .slice none 0 0, .bool false]) (t := 41) ?hr ?_; (case hd => rfl); (case hg => rfl); (case hr => first | (go_simp; done) | (go_simp; rfl)); intro gb112 hg w22 hbox hb; have BK112 := zA (hbox); have GE112 := zA (gW HB.out hg); replace HB := zA (below_step HB.out hb); have NB111_112 := zA (gL BK111.out hg); have NB112_111 := zA (gG BK111.out hg); replace BK111 := zA (bK BK111.out hb); clear hb hbox hg; have hnb23 := NB111_112.out; have hnc23 := NB112_111.out; obtain ⟨hcz24_0, hcz24_1, hcz24_2, hfz24_0, hfz24_1, hfz24_2⟩ := b6 BK111.out) | ((with_reducible refine gate_callee (f := 60) rfl ?_); refine goesL_ (some 6) rfl rfl Try.func60 (by kernel_rfl) rfl #[.agg #[.int .i64 a0_0, .slice A0_1 l0_1.length c0_1, .bool false]] rfl (by (try simp only [List.map_toArray, List.map_cons, List.map_nil]); first | done | rfl | (simp only [List.length_drop, List.length_take]; rfl)) ?_; (with_reducible refine (tape_own.calls a0_0 _ _ l0_1 false t113 t114 t117 _ ?side1 ?side2 A2.out).mono ?_); (case side1 => repeat (first | exact (Kd.C_below HR0_1.out HB.out) | (with_reducible refine Kd.C_alloc ?_ _) | (with_reducible refine Kd.C_drewN ?_ _) | (with_reducible refine Kd.C_drew ?_))); (case side2 => exact HC0_1.out); rintro e w25 ⟨v115, rfl, ho0, hb⟩; refine ⟨_, rfl, ?_⟩; have HO116 := zA (Kd.S_lower ho0 (below_size (by repeat (first | (with_reducible first | exact HB.out | apply bL | apply bP | apply bD | refine bS ?_ GE111.out | refine bS ?_ GE112.out) | exact HB.out)))); replace BK111 := zA (bK BK111.out hb); replace BK112 := zA (bK BK112.out hb); replace HB := zA (below_step HB.out hb); (try clear hb); (try clear hb2); (try clear hk); (try clear hi); (try clear ho0)) | ((with_reducible refine gate_dst (N := 4) rfl ?_); refine box_event ?hg (N := 4) ?hd (cs := #[.int .i64 0, .slice none 0 0, .bool false]) (t := 41) ?hr ?_; (case hd => rfl); (case hg => rfl); (case hr => first | (go_simp; done) | (go_simp; rfl)); intro gb118 hg w26 hbox hb; replace HO116 := zA (Kd.S_below HO116.out hb); have BK118 := zA (hbox); have GE118 := zA (gW HB.out hg); replace HB := zA (below_step HB.out hb); have NB111_118 := zA (gL BK111.out hg); have NB118_111 := zA (gG BK111.out hg); replace BK111 := zA (bK BK111.out hb); have NB112_118 := zA (gL BK112.out hg); have NB118_112 := zA (gG BK112.out hg); replace BK112 := zA (bK BK112.out hb); clear hb hbox hg; have hnb27 := NB118_111.out; have hnc27 := NB111_118.out; have hnb28 := NB118_112.out; have hnc28 := NB112_118.out; obtain ⟨hcz29_0, hcz29_1, hcz29_2, hfz29_0, hfz29_1, hfz29_2⟩ := b6 BK118.out; obtain ⟨Ao30, co30, eo30⟩ := Kd.S_slice HO116.out; subst eo30; obtain ⟨hcz31_0, hcz31_1, hcz31_2, hfz31_0, hfz31_1, hfz31_2⟩ := b6 BK111.out) | ((with_reducible refine gate_callee (f := 52) rfl ?_); refine goesL_ (some 9) rfl rfl Try.func52 (by kernel_rfl) rfl #[.agg #[.int .i64 a0_0, .slice A0_1 l0_1.length c0_1, .bool false]] rfl (by (try simp only [List.map_toArray, List.map_cons, List.map_nil]); first | done | rfl | (simp only [List.length_drop, List.length_take]; rfl)) ?_; (with_reducible refine (tape_May.calls a0_0 _ _ l0_1 false true _ ?side1 ?side2 A3.out).mono ?_); (case side1 => exact Kd.C_below HR0_1.out (by repeat (first | (with_reducible first | exact HB.out | apply bL | apply bP | apply bD | refine bS ?_ GE111.out | refine bS ?_ GE112.out | refine bS ?_ GE118.out) | exact HB.out))); (case side2 => exact HC0_1.out); rintro e w32 ⟨rfl, hb⟩; refine ⟨_, rfl, ?_⟩; replace HO116 := zA (Kd.S_below (by exact (Kd.S_mono (Kd.S_far (p := ⟨gb118, 2, none⟩) (Kd.S_far (p := ⟨gb118, 1, none⟩) (Kd.S_far (p := ⟨gb118, 0, none⟩) (Kd.S_types HO116.out BK118.out (by decide)) (fun _ hk => hk.2) (.int .i64 t113)) (fun _ hk => hk.2) (.slice Ao30 t114.length co30)) (fun _ hk => hk.2) (.bool t117)) (fun _ h_ => h_.1))) hb); replace BK111 := zA (bK (g := gb111) (o := .cells #[.int .i64 a0_0, .slice A0_1 l0_1.length c0_1, .bool false] 41 (0, 0)) (by refine blk_far ?_ NB111_118.out _; refine blk_far ?_ NB111_118.out _; refine blk_far ?_ NB111_118.out _; exact BK111.out) hb); replace BK112 := zA (bK (g := gb112) (o := .cells #[.int .i64 0, .slice none 0 0, .bool false] 41 (0, 0)) (by refine blk_far ?_ NB112_118.out _; refine blk_far ?_ NB112_118.out _; refine blk_far ?_ NB112_118.out _; exact BK112.out) hb); replace BK118 := zA (bK (g := gb118) (o := .cells #[.int .i64 t113, .slice Ao30 t114.length co30, .bool t117] 41 (0, 0)) (by refine blk_put (cs := #[.int .i64 t113, .slice Ao30 t114.length co30, .bool false]) ?_ 2 _ rfl; refine blk_put (cs := #[.int .i64 t113, .slice none 0 0, .bool false]) ?_ 1 _ rfl; refine blk_put (cs := #[.int .i64 0, .slice none 0 0, .bool false]) ?_ 0 _ rfl; exact BK118.out) hb); replace HB := zA (below_step (by repeat (first | (with_reducible first | exact HB.out | apply bL | apply bP | apply bD | refine bS ?_ GE111.out | refine bS ?_ GE112.out | refine bS ?_ GE118.out) | exact HB.out)) hb); (try clear hb); (try clear hb2); (try clear hk); (try clear hi); obtain ⟨hcz33_0, hcz33_1, hcz33_2, hfz33_0, hfz33_1, hfz33_2⟩ := b6 BK111.out; obtain ⟨hcz34_0, hcz34_1, hcz34_2, hfz34_0, hfz34_1, hfz34_2⟩ := b6 BK118.out; obtain ⟨hcz35_0, hcz35_1, hcz35_2, hfz35_0, hfz35_1, hfz35_2⟩ := b6 BK112.out))
   refine bodyPost_ret (results_ct rfl _ _ gb112 41 #[.int .i64 t113, .slice Ao30 t114.length co30, .bool true] (0, 0) _ rfl (by refine blk_put (cs := #[.int .i64 t113, .slice Ao30 t114.length co30, .bool false]) ?_ 2 _ rfl; refine blk_put (cs := #[.int .i64 t113, .slice none 0 0, .bool false]) ?_ 1 _ rfl; refine blk_put (cs := #[.int .i64 0, .slice none 0 0, .bool false]) ?_ 0 _ rfl; refine blk_far ?_ NB112_118.out _; exact BK112.out) Try.underlying41 rfl (by kernel_rfl)) rfl ?_; exact ⟨_, by first | rfl | (simp [errW_none, errW_some] <;> rfl) | (simp [*, errW_none, errW_some] <;> rfl), by exact Kd.S_mono (Kd.S_far (p := ⟨gb112, 2, none⟩) (Kd.S_far (p := ⟨gb112, 1, none⟩) (Kd.S_far (p := ⟨gb112, 0, none⟩) (Kd.S_far (p := ⟨gb118, 2, none⟩) (Kd.S_types (Kd.S_types HO116.out BK118.out (by decide)) BK112.out (by decide)) (fun _ hk => hk.1.2) (.bool true)) (fun _ hk => hk.2) (.int .i64 t113)) (fun _ hk => hk.2) (.slice Ao30 t114.length co30)) (fun _ hk => hk.2) (.bool true)) (fun _ hk => trivial), by repeat (first | (with_reducible first | exact HB.out | apply bL | apply bP | apply bD | refine bS ?_ GE111.out | refine bS ?_ GE112.out | refine bS ?_ GE118.out) | exact HB.out)⟩
 ·replace c4 := Bool.eq_false_iff.mpr c4
  subst c4
  have H1 : (some (t113, t114, t117, 1)) = some (r1, r2, r3, r4) := by rw [if_neg (show ¬ (false = true) by decide)] at H; exact H
  clear H; have H := H1; clear H1
  simp only [Option.some.injEq, Prod.mk.injEq] at H
  obtain ⟨rfl, rfl, rfl, rfl⟩ := H
  go_enter Try.func63, Try.ntmps63
  go_wp2_with (first | ((with_reducible refine gate_dst (N := 1) rfl ?_); refine box_event ?hg (N := 1) ?hd (cs := #[.int .i64 a0_0, .slice A0_1 l0_1.length c0_1, .bool a0_2]) (t := 41) ?hr ?_; (case hd => rfl); (case hg => rfl); (case hr => first | (go_simp; done) | (go_simp; rfl)); intro gb111 hg w36 hbox hb; have BK111 := zA (hbox); have GE111 := zA (gW HB.out hg); replace HB := zA (below_step HB.out hb); clear hb hbox hg) | ((with_reducible refine gate_dst (N := 2) rfl ?_); refine box_event ?hg (N := 2) ?hd (cs := #[.int .i64 0, .slice none 0 0, .bool false]) (t := 41) ?hr ?_; (case hd => rfl); (case hg => rfl); (case hr => first | (go_simp; done) | (go_simp; rfl)); intro gb112 hg w37 hbox hb; have BK112 := zA (hbox); have GE112 := zA (gW HB.out hg); replace HB := zA (below_step HB.out hb); have NB111_112 := zA (gL BK111.out hg); have NB112_111 := zA (gG BK111.out hg); replace BK111 := zA (bK BK111.out hb); clear hb hbox hg; have hnb38 := NB111_112.out; have hnc38 := NB112_111.out; obtain ⟨hcz39_0, hcz39_1, hcz39_2, hfz39_0, hfz39_1, hfz39_2⟩ := b6 BK111.out) | ((with_reducible refine gate_callee (f := 60) rfl ?_); refine goesL_ (some 6) rfl rfl Try.func60 (by kernel_rfl) rfl #[.agg #[.int .i64 a0_0, .slice A0_1 l0_1.length c0_1, .bool a0_2]] rfl (by (try simp only [List.map_toArray, List.map_cons, List.map_nil]); first | done | rfl | (simp only [List.length_drop, List.length_take]; rfl)) ?_; (with_reducible refine (tape_own.calls a0_0 _ _ l0_1 a0_2 t113 t114 t117 _ ?side1 ?side2 A2.out).mono ?_); (case side1 => repeat (first | exact (Kd.C_below HR0_1.out HB.out) | (with_reducible refine Kd.C_alloc ?_ _) | (with_reducible refine Kd.C_drewN ?_ _) | (with_reducible refine Kd.C_drew ?_))); (case side2 => exact HC0_1.out); rintro e w40 ⟨v115, rfl, ho0, hb⟩; refine ⟨_, rfl, ?_⟩; have HO116 := zA (Kd.S_lower ho0 (below_size (by repeat (first | (with_reducible first | exact HB.out | apply bL | apply bP | apply bD | refine bS ?_ GE111.out | refine bS ?_ GE112.out) | exact HB.out)))); replace BK111 := zA (bK BK111.out hb); replace BK112 := zA (bK BK112.out hb); replace HB := zA (below_step HB.out hb); (try clear hb); (try clear hb2); (try clear hk); (try clear hi); (try clear ho0)) | ((with_reducible refine gate_dst (N := 4) rfl ?_); refine box_event ?hg (N := 4) ?hd (cs := #[.int .i64 0, .slice none 0 0, .bool false]) (t := 41) ?hr ?_; (case hd => rfl); (case hg => rfl); (case hr => first | (go_simp; done) | (go_simp; rfl)); intro gb118 hg w41 hbox hb; replace HO116 := zA (Kd.S_below HO116.out hb); have BK118 := zA (hbox); have GE118 := zA (gW HB.out hg); replace HB := zA (below_step HB.out hb); have NB111_118 := zA (gL BK111.out hg); have NB118_111 := zA (gG BK111.out hg); replace BK111 := zA (bK BK111.out hb); have NB112_118 := zA (gL BK112.out hg); have NB118_112 := zA (gG BK112.out hg); replace BK112 := zA (bK BK112.out hb); clear hb hbox hg; have hnb42 := NB118_111.out; have hnc42 := NB111_118.out; have hnb43 := NB118_112.out; have hnc43 := NB112_118.out; obtain ⟨hcz44_0, hcz44_1, hcz44_2, hfz44_0, hfz44_1, hfz44_2⟩ := b6 BK118.out; obtain ⟨Ao45, co45, eo45⟩ := Kd.S_slice HO116.out; subst eo45; obtain ⟨hcz46_0, hcz46_1, hcz46_2, hfz46_0, hfz46_1, hfz46_2⟩ := b6 BK111.out) | ((with_reducible refine gate_callee (f := 52) rfl ?_); refine goesL_ (some 9) rfl rfl Try.func52 (by kernel_rfl) rfl #[.agg #[.int .i64 a0_0, .slice A0_1 l0_1.length c0_1, .bool a0_2]] rfl (by (try simp only [List.map_toArray, List.map_cons, List.map_nil]); first | done | rfl | (simp only [List.length_drop, List.length_take]; rfl)) ?_; (with_reducible refine (tape_May.calls a0_0 _ _ l0_1 a0_2 false _ ?side1 ?side2 A3.out).mono ?_); (case side1 => exact Kd.C_below HR0_1.out (by repeat (first | (with_reducible first | exact HB.out | apply bL | apply bP | apply bD | refine bS ?_ GE111.out | refine bS ?_ GE112.out | refine bS ?_ GE118.out) | exact HB.out))); (case side2 => exact HC0_1.out); rintro e w47 ⟨rfl, hb⟩; refine ⟨_, rfl, ?_⟩; replace HO116 := zA (Kd.S_below (by exact (Kd.S_mono (Kd.S_far (p := ⟨gb118, 2, none⟩) (Kd.S_far (p := ⟨gb118, 1, none⟩) (Kd.S_far (p := ⟨gb118, 0, none⟩) (Kd.S_types HO116.out BK118.out (by decide)) (fun _ hk => hk.2) (.int .i64 t113)) (fun _ hk => hk.2) (.slice Ao45 t114.length co45)) (fun _ hk => hk.2) (.bool t117)) (fun _ h_ => h_.1))) hb); replace BK112 := zA (bK (g := gb112) (o := .cells #[.int .i64 0, .slice none 0 0, .bool false] 41 (0, 0)) (by refine blk_far ?_ NB112_118.out _; refine blk_far ?_ NB112_118.out _; refine blk_far ?_ NB112_118.out _; exact BK112.out) hb); replace BK118 := zA (bK (g := gb118) (o := .cells #[.int .i64 t113, .slice Ao45 t114.length co45, .bool t117] 41 (0, 0)) (by refine blk_put (cs := #[.int .i64 t113, .slice Ao45 t114.length co45, .bool false]) ?_ 2 _ rfl; refine blk_put (cs := #[.int .i64 t113, .slice none 0 0, .bool false]) ?_ 1 _ rfl; refine blk_put (cs := #[.int .i64 0, .slice none 0 0, .bool false]) ?_ 0 _ rfl; exact BK118.out) hb); replace HB := zA (below_step (by repeat (first | (with_reducible first | exact HB.out | apply bL | apply bP | apply bD | refine bS ?_ GE111.out | refine bS ?_ GE112.out | refine bS ?_ GE118.out) | exact HB.out)) hb); (try clear hb); (try clear hb2); (try clear hk); (try clear hi); obtain ⟨hcz48_0, hcz48_1, hcz48_2, hfz48_0, hfz48_1, hfz48_2⟩ := b6 BK118.out; obtain ⟨hcz49_0, hcz49_1, hcz49_2, hfz49_0, hfz49_1, hfz49_2⟩ := b6 BK112.out))
  refine bodyPost_ret (results_ct rfl _ _ gb112 41 #[.int .i64 t113, .slice Ao45 t114.length co45, .bool t117] (0, 0) _ rfl (by refine blk_put (cs := #[.int .i64 t113, .slice Ao45 t114.length co45, .bool false]) ?_ 2 _ rfl; refine blk_put (cs := #[.int .i64 t113, .slice none 0 0, .bool false]) ?_ 1 _ rfl; refine blk_put (cs := #[.int .i64 0, .slice none 0 0, .bool false]) ?_ 0 _ rfl; exact BK112.out) Try.underlying41 rfl (by kernel_rfl)) rfl ?_; exact ⟨_, by first | rfl | (simp [errW_none, errW_some] <;> rfl) | (simp [*, errW_none, errW_some] <;> rfl), by exact Kd.S_mono (Kd.S_far (p := ⟨gb112, 2, none⟩) (Kd.S_far (p := ⟨gb112, 1, none⟩) (Kd.S_far (p := ⟨gb112, 0, none⟩) (Kd.S_types HO116.out BK112.out (by decide)) (fun _ hk => hk.2) (.int .i64 t113)) (fun _ hk => hk.2) (.slice Ao45 t114.length co45)) (fun _ hk => hk.2) (.bool t117)) (fun _ hk => trivial), by repeat (first | (with_reducible first | exact HB.out | apply bL | apply bP | apply bD | refine bS ?_ GE111.out | refine bS ?_ GE112.out | refine bS ?_ GE118.out) | exact HB.out)⟩

theorem row_put {W0 W1 : World} {base g i cap c : Nat} {l : List S41} {x : S41} {A : Option Addr} (hD : HalfD W0 0 base (some ⟨g, 0, none⟩) l.length l) (hi : i < l.length) (hl : l.length ≤ 1000000) (hcap : l.length ≤ cap) (hB : Below W0.heap.size W0 W1)
    (hF : Kd.F (Kd.slice 5 (Kd.int .u8)) W1 (fun k => W0.heap.size < k) A x.f1.length x.f1) (hc : x.f1.length ≤ c) :
    Kd.V k41 41 (((W1.setCell ⟨g, i * 3, none⟩ (.int .i64 x.f0)).setCell ⟨g, i * 3 + 1, none⟩ (.slice A x.f1.length c)).setCell ⟨g, i * 3 + 2, none⟩ (.bool x.f2)) 0 (fun k => base ≤ k ∧ k ≠ W0.heap.size) (.slice (some ⟨g, 0, none⟩) l.length cap) (l.set i x) := by
  obtain ⟨g', cur, hg', hg, hb, hx⟩ := hD (by omega)
  injection hg' with hg'
  injection hg' with hg' _ _
  subst hg'
  have hgl := blk_lt hg
  obtain ⟨_, _, e0, e1, e2, _, _⟩ := (hx i l[i] (List.getElem?_eq_getElem hi)).1 hi
  obtain ⟨cur2, hcur2⟩ : ∃ cur2, cur2 = ((cur.setIfInBounds (i * 3) (.int .i64 x.f0)).setIfInBounds (i * 3 + 1) (.slice A x.f1.length c)).setIfInBounds (i * 3 + 2) (.bool x.f2) := ⟨_, rfl⟩
  have hg2 : (((W1.setCell ⟨g, i * 3, none⟩ (.int .i64 x.f0)).setCell ⟨g, i * 3 + 1, none⟩ (.slice A x.f1.length c)).setCell ⟨g, i * 3 + 2, none⟩ (.bool x.f2)).heap[g]? = some (.cells cur2 41 (0, 0)) := by
    rw [hcur2]
    exact blk_set (blk_set (blk_set (blk_below hg hB) _ _) _ _) _ _
  have hmv : ∀ k, k ≠ g → (((W1.setCell ⟨g, i * 3, none⟩ (.int .i64 x.f0)).setCell ⟨g, i * 3 + 1, none⟩ (.slice A x.f1.length c)).setCell ⟨g, i * 3 + 2, none⟩ (.bool x.f2)).heap[k]? = W1.heap[k]? := fun k hk => by
    rw [Below.heap_setCell _ ⟨g, i * 3 + 2, none⟩ _ k hk, Below.heap_setCell _ ⟨g, i * 3 + 1, none⟩ _ k hk, Below.heap_setCell _ ⟨g, i * 3, none⟩ _ k hk]
  obtain ⟨W2, hW2⟩ : ∃ W2, W2 = ((W1.setCell ⟨g, i * 3, none⟩ (.int .i64 x.f0)).setCell ⟨g, i * 3 + 1, none⟩ (.slice A x.f1.length c)).setCell ⟨g, i * 3 + 2, none⟩ (.bool x.f2) := ⟨_, rfl⟩
  rw [← hW2] at hg2 hmv ⊢
  have hd2 : ∀ j y, (l.set i x)[j]? = some y → TapeIn W2 (fun k => (base ≤ k ∧ k ≠ W0.heap.size)) cur2 j y := by
    intro j y hj
    have hjl : j < l.length := by have := (List.getElem?_eq_some_iff.1 hj).1; simpa using this
    by_cases e : j = i
    · subst e
      rw [List.getElem?_set_self hjl] at hj
      obtain rfl := Option.some.inj hj
      refine ⟨A, c, ?_, ?_, ?_, hc, Kd.F_mono (Kd.F_step hF (fun k hk _ => hmv k (by omega))) (fun k hk => ⟨by omega, by omega⟩)⟩
      · rw [hcur2]; exact cur_step (cur_step (cur_put e0) (by omega)) (by omega)
      · rw [hcur2]; exact cur_step (cur_put (cur_step e1 (by omega))) (by omega)
      · rw [hcur2]; exact cur_put (cur_step (cur_step e2 (by omega)) (by omega))
    · rw [List.getElem?_set_ne (Ne.symm e)] at hj
      refine ((((hx j y hj).1 hjl).bound.step (fun k hk hlt => (hmv k hk.1.2).trans (hB.block k hlt))).mono (fun k hk => ⟨hk.1.1, by have := hk.2; omega⟩)).cells (fun q hq => ?_)
      rw [hcur2, Array.getElem?_setIfInBounds_ne (by omega), Array.getElem?_setIfInBounds_ne (by omega), Array.getElem?_setIfInBounds_ne (by omega)]
  have hlen : (l.set i x).length = l.length := List.length_set
  rw [← hlen]
  refine Kd.V_mk (by rw [hlen]; exact hcap) (fun W' hW => ⟨rfl, by rw [hlen]; omega, fun h0 => ⟨_, rfl, fun j p hj => ?_⟩⟩)
  obtain ⟨A2, c2, e0', e1', e2', hl2, hF2⟩ := hd2 j p hj
  refine ⟨[.int .i64 p.f0, .slice A2 p.f1.length c2, .bool p.f2], rfl, k41_mk W' p hl2 (hF2 W' (fun k hk hlt => hW k hk hlt)), fun q u hu => ?_⟩
  have hq : q < 3 := (List.getElem?_eq_some_iff.1 hu).1
  have hg' : W'.heap[g]? = some (.cells cur2 41 (0, 0)) := (hW g ⟨hb, by omega⟩ (blk_lt hg2)).trans hg2
  rw [add_plain, show j * k41.sz + q = j * 3 + q from rfl, blk_cell hg' (j * 3 + q)]
  match q, hq with
  | 0, _ => exact e0'.trans hu
  | 1, _ => exact e1'.trans hu
  | 2, _ => exact e2'.trans hu
theorem rd_at {l : List S41} {i : Int} (h0 : 0 ≤ i) (h1 : i < (l.length : Int)) : l[i.toNat]? = some (rd_T41 l i) := by
  unfold rd_T41
  rw [List.getD_eq_getElem?_getD, List.getElem?_eq_getElem (by omega : i.toNat < l.length)]
  rfl
def Kp (X : Nat → Prop) (W W' : World) : Prop := ∀ p v, ¬ X p.block → W.cell? p = some v → W'.cell? p = some v
theorem Kp.refl (X : Nat → Prop) (W : World) : Kp X W W := fun _ _ _ h => h
theorem Kp.below {X : Nat → Prop} {W W' W'' : World} (h : Kp X W W') (hb : Below W'.heap.size W' W'') : Kp X W W'' := fun p v hx hv => pw_cell_below hb (h p v hx hv)
theorem Kp.alloc {X : Nat → Prop} {W W' : World} (h : Kp X W W') (o : Obj) : Kp X W (W'.alloc o) := h.below (below_alloc (Below.refl _ _) o)
theorem Kp.drew {X : Nat → Prop} {W W' : World} (h : Kp X W W') : Kp X W W'.drew := h.below (Below.drew (Below.refl _ _))
theorem Kp.set {X : Nat → Prop} {W W' : World} (h : Kp X W W') {q : Addr} (hq : X q.block ∨ W.heap.size ≤ q.block) (u : Value) : Kp X W (W'.setCell q u) := fun p v hx hv => by
  have hne : p.block ≠ q.block := by
    intro e
    rcases hq with hq | hq
    · exact hx (e ▸ hq)
    · have := World.block_lt_of_cell? W _ hv; omega
  exact (World.cell?_of_block (Below.heap_setCell W' q u p.block hne)).trans (h p v hx hv)
theorem held6 {X : Nat → Prop} {W W' : World} {p0 p1 p2 p3 p4 p5 : Addr} {v0 v1 v2 v3 v4 v5 : Value} (hk : Kp X W W') (h0 : ¬ X p0.block ∧ W.cell? p0 = some v0) (h1 : ¬ X p1.block ∧ W.cell? p1 = some v1) (h2 : ¬ X p2.block ∧ W.cell? p2 = some v2) (h3 : ¬ X p3.block ∧ W.cell? p3 = some v3) (h4 : ¬ X p4.block ∧ W.cell? p4 = some v4) (h5 : ¬ X p5.block ∧ W.cell? p5 = some v5) :
    W'.cell? p0 = some v0 ∧ W'.cell? p1 = some v1 ∧ W'.cell? p2 = some v2 ∧ W'.cell? p3 = some v3 ∧ W'.cell? p4 = some v4 ∧ W'.cell? p5 = some v5 :=
  ⟨hk _ _ h0.1 h0.2, hk _ _ h1.1 h1.2, hk _ _ h2.1 h2.2, hk _ _ h3.1 h3.2, hk _ _ h4.1 h4.2, hk _ _ h5.1 h5.2⟩
theorem held4 {X : Nat → Prop} {W W' : World} {p0 p1 p2 p3 : Addr} {v0 v1 v2 v3 : Value} (hk : Kp X W W') (h0 : ¬ X p0.block ∧ W.cell? p0 = some v0) (h1 : ¬ X p1.block ∧ W.cell? p1 = some v1) (h2 : ¬ X p2.block ∧ W.cell? p2 = some v2) (h3 : ¬ X p3.block ∧ W.cell? p3 = some v3) :
    W'.cell? p0 = some v0 ∧ W'.cell? p1 = some v1 ∧ W'.cell? p2 = some v2 ∧ W'.cell? p3 = some v3 :=
  ⟨hk _ _ h0.1 h0.2, hk _ _ h1.1 h1.2, hk _ _ h2.1 h2.2, hk _ _ h3.1 h3.2⟩
theorem held5 {X : Nat → Prop} {W W' : World} {p0 p1 p2 p3 p4 : Addr} {v0 v1 v2 v3 v4 : Value} (hk : Kp X W W') (h0 : ¬ X p0.block ∧ W.cell? p0 = some v0) (h1 : ¬ X p1.block ∧ W.cell? p1 = some v1) (h2 : ¬ X p2.block ∧ W.cell? p2 = some v2) (h3 : ¬ X p3.block ∧ W.cell? p3 = some v3) (h4 : ¬ X p4.block ∧ W.cell? p4 = some v4) :
    W'.cell? p0 = some v0 ∧ W'.cell? p1 = some v1 ∧ W'.cell? p2 = some v2 ∧ W'.cell? p3 = some v3 ∧ W'.cell? p4 = some v4 :=
  ⟨hk _ _ h0.1 h0.2, hk _ _ h1.1 h1.2, hk _ _ h2.1 h2.2, hk _ _ h3.1 h3.2, hk _ _ h4.1 h4.2⟩
set_option maxHeartbeats 8000000 in
set_option maxRecDepth 100000 in
theorem way_mark (w : World) (X : Nat → Prop) (l : List S41) (i p : Int) (hl : l.length ≤ 1000000) (h0 : 0 ≤ i) (h1 : i < (l.length : Int)) (x' : S41) (q1 : Int) (q2 : List (List Int)) (q3 : Bool) (q4 q8 : Int)
    (hcut : tape_Cut.f (rd_T41 l i).f0 (rd_T41 l i).f1 (rd_T41 l i).f2 p = some (q1, q2, q3, q4)) (hcl : tape_Close.f q1 q2 q3 = some (x'.f0, x'.f1, x'.f2, q8)) : Way 45 #[] w X l i p 0 (l.set i.toNat x') i p (fun _ => True) := by
  intro W0 W h A c hB hc hD hW0 hh hBW hb
  obtain ⟨g, cur, hA, hg, hbg, hx⟩ := hD (by omega)
  subst hA
  obtain ⟨A1, c1, e0, e1, e2, hl1, hF1⟩ := (hx i.toNat _ (rd_at h0 h1)).1 (by omega)
  have hgW := (hBW.block g (blk_lt hg)).trans hg
  have q0 : W.cell? ⟨g, i.toNat * 3, none⟩ = some (.int .i64 (rd_T41 l i).f0) := (blk_cell hgW _).trans e0
  have q1' : W.cell? ⟨g, i.toNat * 3 + 1, none⟩ = some (.slice A1 (rd_T41 l i).f1.length c1) := (blk_cell hgW _).trans e1
  have q2' : W.cell? ⟨g, i.toNat * 3 + 2, none⟩ = some (.bool (rd_T41 l i).f2) := (blk_cell hgW _).trans e2
  have hk0 := (blk_cell hb 0).trans rfl
  have hk1 := (blk_cell hb 1).trans rfl
  have hk2 := (blk_cell hb 2).trans rfl
  have HC1 := Aside0.mk (Kd.F_now (Kd.F_step hF1 (fun k hk hlt => hBW.block k hlt)))
  have HL1 := Aside0.mk hl1
  have HGW := Aside0.mk hgW
  have HE := Aside0.mk (And.intro e0 (And.intro e1 e2))
  have HGL := Aside0.mk (show g < h by have := blk_lt hg; omega)
  have HHL := Aside0.mk (blk_lt hb)
  have HB := Aside0.mk hB
  have HC := Aside0.mk hc
  have HD := Aside0.mk hD
  have HW0 := Aside0.mk hW0
  have HH := Aside0.mk hh
  have HBW := Aside0.mk hBW
  have HK := Aside0.mk hb
  have HL := Aside0.mk hl
  have HBG := Aside0.mk hbg
  have HCUT := Aside0.mk hcut
  have HCL := Aside0.mk hcl
  have HI := Aside0.mk (And.intro h0 h1)
  have p1 := eq_true h0
  have p2 := eq_true h1
  have n1 : g ≠ h := by have := blk_lt hg; omega
  have n2 := Ne.symm n1
  clear hB hc hD hW0 hh hBW hb hl h0 h1 hcut hcl e0 e1 e2 hl1 hF1 hgW hg hbg hx
  go_enter Try.func45, Try.ntmps45
  have HQ0 := Aside0.mk (And.intro (show ¬ (False : Prop) from fun h9 => h9) hk0)
  have HQ1 := Aside0.mk (And.intro (show ¬ (False : Prop) from fun h9 => h9) hk1)
  have HQ2 := Aside0.mk (And.intro (show ¬ (False : Prop) from fun h9 => h9) hk2)
  have HQ3 := Aside0.mk (And.intro (show ¬ (False : Prop) from fun h9 => h9) q0)
  have HQ4 := Aside0.mk (And.intro (show ¬ (False : Prop) from fun h9 => h9) q1')
  have HQ5 := Aside0.mk (And.intro (show ¬ (False : Prop) from fun h9 => h9) q2')
  have HKP := Aside0.mk (Kp.refl (fun _ => False) W)
  have b30 := blk_new W (.cells #[.int .i64 0, .slice none 0 0, .bool false] 41)
  have HB30 := Aside0.mk b30
  have k30a := (blk_cell b30 0).trans rfl
  have k31a := (blk_cell b30 1).trans rfl
  have k32a := (blk_cell b30 2).trans rfl
  have f30a := blk_frozen b30 0
  have f31a := blk_frozen b30 1
  have f32a := blk_frozen b30 2
  clear hk0 hk1 hk2 q0 q1' q2' b30
  go_wp2
  go_region_held3 (fun w' => w'.cell? ⟨h, 0, none⟩ = some (.slice (some ⟨g, 0, none⟩) l.length c) ∧ w'.cell? ⟨h, 1, none⟩ = some (.int .i64 i) ∧ w'.cell? ⟨h, 2, none⟩ = some (.int .i64 p) ∧ w'.cell? ⟨g, i.toNat * 3, none⟩ = some (.int .i64 (rd_T41 l i).f0) ∧ w'.cell? ⟨g, i.toNat * 3 + 1, none⟩ = some (.slice A1 (rd_T41 l i).f1.length c1) ∧ w'.cell? ⟨g, i.toNat * 3 + 2, none⟩ = some (.bool (rd_T41 l i).f2))
    ((refine held6 (X := fun _ => False) (W := W) ?_ HQ0.out HQ1.out HQ2.out HQ3.out HQ4.out HQ5.out; repeat (first | exact HKP.out | exact Kp.refl _ _ | exact HBK.out | refine Kp.alloc ?_ _ | refine Kp.drew ?_ | refine Kp.set ?_ (.inr (by first | exact Nat.le_refl _ | exact HSZ.out)) _)))
    (first | (go_at_call 40; refine (tape_Cut.calls _ A1 c1 _ _ p _ _ _ _ W.drew (Kd.C_drew HC1.out) HL1.out HCUT.out).mono ?_; rintro e w5 ⟨v5, rfl, hV5, hb5⟩; obtain ⟨A5, c5, he5⟩ := Kd.V_slice hV5; subst he5; have hw5 := below_step (Below.drew (Below.refl W.heap.size W)) hb5; have HV5 := Aside0.mk (show Kd.V (Kd.slice 5 (Kd.int .u8)) 25 w5 0 (fun k => W.heap.size ≤ k) (.slice A5 q2.length c5) q2 from hV5); have HB5 := Aside0.mk hw5; have HBK := Aside0.mk (Kp.below (Kp.refl (fun _ => False) W) hw5); have HSZ := Aside0.mk hw5.size; have b3 := blk_new w5 (.cells #[.int .i64 0, .slice none 0 0, .bool false] 41); have k30 := (blk_cell b3 0).trans rfl; have k31 := (blk_cell b3 1).trans rfl; have k32 := (blk_cell b3 2).trans rfl; have f30 := blk_frozen b3 0; have f31 := blk_frozen b3 1; have f32 := blk_frozen b3 2; have BK3 := Aside0.mk b3; clear hV5 hb5 b3 hw5) | (go_at_call 40; refine (tape_Cut.calls _ A1 c1 _ _ p _ _ _ _ (W.alloc (.cells #[.int .i64 0, .slice none 0 0, .bool false] 41)).drew (Kd.C_drew (Kd.C_alloc HC1.out (.cells #[.int .i64 0, .slice none 0 0, .bool false] 41))) HL1.out HCUT.out).mono ?_; rintro e wz ⟨v5, rfl, hV5, hb5⟩; obtain ⟨A5, c5, he5⟩ := Kd.V_slice hV5; subst he5; have hw5 := below_step (Below.drew (Below.refl (W.alloc (.cells #[.int .i64 0, .slice none 0 0, .bool false] 41)).heap.size (W.alloc (.cells #[.int .i64 0, .slice none 0 0, .bool false] 41)))) hb5; have HVZ := Aside0.mk (show Kd.V (Kd.slice 5 (Kd.int .u8)) 25 wz 0 (fun k => W.heap.size + 1 ≤ k) (.slice A5 q2.length c5) q2 from Kd.V_mono hV5 (fun k hk => by have h9 : (W.alloc (.cells #[.int .i64 0, .slice none 0 0, .bool false] 41)).heap.size ≤ k := hk; simp at h9; omega)); have HBZ := Aside0.mk (below_step (below_alloc (Below.refl W.heap.size W) (.cells #[.int .i64 0, .slice none 0 0, .bool false] 41)) hw5); have HBK := Aside0.mk (Kp.below (Kp.alloc (Kp.refl (fun _ => False) W) (.cells #[.int .i64 0, .slice none 0 0, .bool false] 41)) hw5); have b3 := blk_below HB30.out hw5; have k30 := (blk_cell b3 0).trans rfl; have k31 := (blk_cell b3 1).trans rfl; have k32 := (blk_cell b3 2).trans rfl; have f30 := blk_frozen b3 0; have f31 := blk_frozen b3 1; have f32 := blk_frozen b3 2; have BKZ := Aside0.mk b3; clear hV5 hb5 b3 hw5))
  all_goals (
    first | (have hb6 : Below W.heap.size W (w5.alloc (.cells #[.int .i64 q1, .slice A5 q2.length c5, .bool q3] 41)) := below_alloc HB5.out _; have bk3 : (w5.alloc (.cells #[.int .i64 q1, .slice A5 q2.length c5, .bool q3] 41)).heap[w5.heap.size]? = some (.cells #[.int .i64 q1, .slice A5 q2.length c5, .bool q3] 41 (0, 0)) := blk_new w5 _; have hg3 : W.heap.size ≤ w5.heap.size := HSZ.out; have hv6 : Kd.V (Kd.slice 5 (Kd.int .u8)) 25 (w5.alloc (.cells #[.int .i64 q1, .slice A5 q2.length c5, .bool q3] 41)) 0 (fun k => W.heap.size ≤ k) (.slice A5 q2.length c5) q2 := Kd.V_alloc HV5.out _; generalize w5.alloc (.cells #[.int .i64 q1, .slice A5 q2.length c5, .bool q3] 41) = S6 at hb6 bk3 hv6 ⊢; generalize w5.heap.size = g3 at bk3 hg3 ⊢) | (have hb6 : Below W.heap.size W (((wz.setCell ⟨W.heap.size, 0, none⟩ (.int .i64 q1)).setCell ⟨W.heap.size, 1, none⟩ (.slice A5 q2.length c5)).setCell ⟨W.heap.size, 2, none⟩ (.bool q3)) := three_below HBZ.out (Nat.le_refl _); have bk3 : (((wz.setCell ⟨W.heap.size, 0, none⟩ (.int .i64 q1)).setCell ⟨W.heap.size, 1, none⟩ (.slice A5 q2.length c5)).setCell ⟨W.heap.size, 2, none⟩ (.bool q3)).heap[W.heap.size]? = some (.cells #[.int .i64 q1, .slice A5 q2.length c5, .bool q3] 41 (0, 0)) := three_put BKZ.out; have hg3 : W.heap.size ≤ W.heap.size := Nat.le_refl _; have hv6 : Kd.V (Kd.slice 5 (Kd.int .u8)) 25 (((wz.setCell ⟨W.heap.size, 0, none⟩ (.int .i64 q1)).setCell ⟨W.heap.size, 1, none⟩ (.slice A5 q2.length c5)).setCell ⟨W.heap.size, 2, none⟩ (.bool q3)) 0 (fun k => W.heap.size ≤ k) (.slice A5 q2.length c5) q2 := Kd.V_mono (Kd.V_step HVZ.out (fun k hk _ => three_heap (by omega))) (fun k hk => by omega); generalize (((wz.setCell ⟨W.heap.size, 0, none⟩ (.int .i64 q1)).setCell ⟨W.heap.size, 1, none⟩ (.slice A5 q2.length c5)).setCell ⟨W.heap.size, 2, none⟩ (.bool q3)) = S6 at hb6 bk3 hv6 ⊢; obtain ⟨g3, hg9⟩ : ∃ g3, g3 = W.heap.size := ⟨_, rfl⟩; rw [← hg9] at bk3 ⊢; replace hg3 : W.heap.size ≤ g3 := (by rw [hg9]; exact Nat.le_refl _); clear hg9)
    have hgg : g3 ≠ g := by have := HGL.out; have := HHL.out; omega
    have hsz6 := hb6.size
    have HR0 := Aside0.mk (And.intro n2 (pw_cell_below hb6 HQ0.out.2))
    have HR1 := Aside0.mk (And.intro n2 (pw_cell_below hb6 HQ1.out.2))
    have HR2 := Aside0.mk (And.intro hgg ((blk_cell bk3 0).trans rfl))
    have HR3 := Aside0.mk (And.intro hgg ((blk_cell bk3 1).trans rfl))
    have HR4 := Aside0.mk (And.intro hgg ((blk_cell bk3 2).trans rfl))
    have HB6 := Aside0.mk hb6
    have HV6 := Aside0.mk hv6
    have HS6 := Aside0.mk hsz6
    clear hb6 bk3 hg3 hv6 hgg hsz6
    go_wp2
    go_region_held3 (fun w' => w'.cell? ⟨h, 0, none⟩ = some (.slice (some ⟨g, 0, none⟩) l.length c) ∧ w'.cell? ⟨h, 1, none⟩ = some (.int .i64 i) ∧ w'.cell? ⟨g3, 0, none⟩ = some (.int .i64 q1) ∧ w'.cell? ⟨g3, 1, none⟩ = some (.slice A5 q2.length c5) ∧ w'.cell? ⟨g3, 2, none⟩ = some (.bool q3))
      ((refine held5 (X := fun k => k = g) (W := S6) ?_ HR0.out HR1.out HR2.out HR3.out HR4.out; (with_reducible repeat (first | exact HBK2.out | exact Kp.refl _ _ | refine Kp.set ?_ (.inl (Eq.refl g)) _ | refine Kp.drew ?_))))
      (first | (go_at_call 63; refine (tape_Close.calls q1 A5 c5 q2 q3 _ _ _ _ S6.drew (Kd.C_drew (Kd.V_reads' HV6.out).2.2) (Kd.V_reads' HV6.out).2.1 HCL.out).mono ?_; rintro e w8 ⟨v8, rfl, hS8, hb8⟩; obtain ⟨A8, c8, he8⟩ := Kd.S_slice hS8; subst he8; have hw8 := below_step (Below.drew (Below.refl S6.heap.size S6)) hb8; have HBK2 := Aside0.mk (Kp.below (Kp.refl (fun k => k = g) S6) hw8); have HB8 := Aside0.mk hw8; have HV8 := Aside0.mk (show Kd.V (Kd.slice 5 (Kd.int .u8)) 25 w8 0 (fun k => S6.heap.size ≤ k) (.slice A8 x'.f1.length c8) x'.f1 from V_of_S hS8); have bg := blk_below (blk_below HGW.out HB6.out) hw8; have m0 := (blk_cell bg (i.toNat * 3)).trans HE.out.1; have m1 := (blk_cell bg (i.toNat * 3 + 1)).trans HE.out.2.1; have m2 := (blk_cell bg (i.toNat * 3 + 2)).trans HE.out.2.2; have fr0 := blk_frozen bg (i.toNat * 3); have fr1 := blk_frozen bg (i.toNat * 3 + 1); have fr2 := blk_frozen bg (i.toNat * 3 + 2); clear hS8 hb8 bg hw8))
    all_goals (
      go_wp2
      go_ret
      refine ⟨by first | rfl | (simp; done), ?_, fun _ => ?_, ?_, trivial⟩
      · rw [Below.heap_setCell _ ⟨g, i.toNat * 3 + 2, none⟩ _ h n2, Below.heap_setCell _ ⟨g, i.toNat * 3 + 1, none⟩ _ h n2, Below.heap_setCell _ ⟨g, i.toNat * 3, none⟩ _ h n2]
        exact blk_below (blk_below HK.out HB6.out) HB8.out
      · exact Kd.V_mono (row_put (x := x') HD.out (by have := HI.out; omega) HL.out HC.out (HBW.out.trans ((below_step HB6.out HB8.out).mono (by have := HHL.out; have := HW0.out; omega))) (Kd.F_mono (Kd.V_F HV8.out) (fun k hk => by have := HS6.out; have := HHL.out; have := HW0.out; omega)) (Kd.V_at HV8.out).2.1) (fun k hk => hk.1)
      · exact BelowX.set (BelowX.set (BelowX.set (BelowX.of ((below_step HB6.out HB8.out).mono (by have := HHL.out; have := HH.out; omega))) (.inl HBG.out) _) (.inl HBG.out) _) (.inl HBG.out) _))

theorem half_kept {W0 W : World} {base : Nat} {A : Option Addr} {c : Nat} {l : List S41} (hD : HalfD W0 0 base A l.length l) (hl : l.length ≤ 1000000) (hc : l.length ≤ c) (hm : ∀ k, base ≤ k → k < W0.heap.size → W.heap[k]? = W0.heap[k]?) : Kd.V k41 41 W 0 (fun k => base ≤ k) (.slice A l.length c) l :=
  (hD.step (W1 := W) (fun k hk hlt => hm k (by omega) hlt)).V hl hc
theorem way_out (w : World) (X : Nat → Prop) (l : List S41) (i p : Int) (hl : l.length ≤ 1000000) : Way 35 #[] w X l i p 0 l (-1) 0 (fun _ => True) := by
  intro W0 W h A c hB hc hD hW0 hh hBW hb
  have hk1 := (blk_cell hb 1).trans rfl
  have hk2 := (blk_cell hb 2).trans rfl
  have hf1 := blk_frozen hb 1
  have hf2 := blk_frozen hb 2
  have HB := Aside0.mk hB
  have HC := Aside0.mk hc
  have HD := Aside0.mk hD
  have HW0 := Aside0.mk hW0
  have HH := Aside0.mk hh
  have HBW := Aside0.mk hBW
  have HK := Aside0.mk hb
  have HL := Aside0.mk hl
  clear hB hc hD hW0 hh hBW hb hl
  go_enter Try.func35, Try.ntmps35
  go_wp2
  go_ret
  refine ⟨by first | rfl | (simp; done), blk_put (blk_put HK.out 1 (.int .i64 (-1)) rfl) 2 (.int .i64 0) rfl, fun _ => half_kept HD.out HL.out HC.out (fun k hk hlt => ?_), BelowX.set (BelowX.set (BelowX.of (Below.refl _ _)) (.inl HH.out) _) (.inl HH.out) _, trivial⟩
  have hne : k ≠ h := by have := HW0.out; omega
  rw [Below.heap_setCell _ ⟨h, 2, none⟩ _ k hne, Below.heap_setCell _ ⟨h, 1, none⟩ _ k hne]
  exact HBW.out.block k hlt
theorem way_back (w : World) (X : Nat → Prop) (l : List S41) (i p : Int) (hl : l.length ≤ 1000000) : Way 37 #[] w X l i p 0 l i 0 (fun _ => True) := by
  intro W0 W h A c hB hc hD hW0 hh hBW hb
  have hk2 := (blk_cell hb 2).trans rfl
  have hf2 := blk_frozen hb 2
  have HB := Aside0.mk hB
  have HC := Aside0.mk hc
  have HD := Aside0.mk hD
  have HW0 := Aside0.mk hW0
  have HH := Aside0.mk hh
  have HBW := Aside0.mk hBW
  have HK := Aside0.mk hb
  have HL := Aside0.mk hl
  clear hB hc hD hW0 hh hBW hb hl
  go_enter Try.func37, Try.ntmps37
  go_wp2
  go_ret
  refine ⟨by first | rfl | (simp; done), blk_put HK.out 2 (.int .i64 0) rfl, fun _ => half_kept HD.out HL.out HC.out (fun k hk hlt => ?_), BelowX.set (BelowX.of (Below.refl _ _)) (.inl HH.out) _, trivial⟩
  have hne : k ≠ h := by have := HW0.out; omega
  rw [Below.heap_setCell _ ⟨h, 2, none⟩ _ k hne]
  exact HBW.out.block k hlt

def slices_Clone_byte_byte_55.f (l0 : List Int) : Option (List Int) := if l0.length ≤ 1000000 then some l0 else none
theorem slices_Clone_byte_byte_55.calls (A0 : Option Addr) (c0 : Nat) (l0 : List Int) (r : List Int) (w : World) (hr0 : Kd.C (Kd.int .u8) w A0 l0.length l0) (hc0 : l0.length ≤ c0) (h : slices_Clone_byte_byte_55.f l0 = some r) :
    Calls Try.prog 55 #[.slice A0 l0.length c0] w fun e w' => ∃ v0_ : Value, e = .returned v0_ ∧ (Kd.int .u8).R 5 w' w.heap.size (fun _ => True) v0_ r ∧ Below w.heap.size w w' := by
  unfold slices_Clone_byte_byte_55.f at h
  by_cases hl : l0.length ≤ 1000000
  · rw [if_pos hl] at h
    obtain rfl := Option.some.inj h
    exact clone_any A0 c0 l0 w hr0 hl
  · rw [if_neg hl] at h; cases h

end Go.Proofs.Ytpbfeegfkiegeaa.M
