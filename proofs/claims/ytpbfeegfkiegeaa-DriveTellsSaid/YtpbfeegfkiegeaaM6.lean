/- Part of a claim: what some functions of the program compute, each with its contract; no condition of its own. Written by a program of this workplace (gen.py, over the print of the kit) and by hand. -/
import Derived.Test.YtpbfeegfkiegeaaM0
import Derived.Test.YtpbfeegfkiegeaaM1
import Derived.Test.YtpbfeegfkiegeaaM2
namespace Go.Proofs.Ytpbfeegfkiegeaa.M
open Go.RowKit Go.Proofs.YtpbfeegfkiegeaaW.PrintWords Go.Proofs.YtpbfeegfkiegeaaW.PrintLast Go.Proofs.YtpbfeegfkiegeaaW.PrintMore
attribute [local go_sem] max2_int min2_int max_two min_two max_three min_three max_four min_four   -- for this text's walks alone
set_option linter.unusedVariables false
set_option linter.unusedSimpArgs false

def tape_own.f (a0_0 : Int) (l0_1 : List (List Int)) (a0_2 : Bool) : Option (Int × List (List Int) × Bool) :=
  if l0_1.length ≤ 1000 ∧ (l0_1.all fun b => decide (b.length ≤ 1000000)) = true then some (a0_0, l0_1, a0_2) else none
set_option maxHeartbeats 8000000 in
set_option maxRecDepth 100000 in
theorem tape_own.calls (a0_0 : Int) (A0_1 : Option Addr) (c0_1 : Nat) (l0_1 : List (List Int)) (a0_2 : Bool) (r1 : Int) (r2 : List (List Int)) (r3 : Bool) (w : World) (hr0_1 : Kd.C (Kd.slice 5 (Kd.int .u8)) w A0_1 l0_1.length l0_1) (hc0_1 : l0_1.length ≤ c0_1) (h : tape_own.f a0_0 l0_1 a0_2 = some (r1, r2, r3)) :
    Calls Try.prog 60 #[.agg #[.int .i64 a0_0, .slice A0_1 l0_1.length c0_1, .bool a0_2]] w fun e w' => ∃ v1_ : Value, e = .returned (.agg #[.int .i64 r1, v1_, .bool r3]) ∧ Kd.S (Kd.slice 5 (Kd.int .u8)) 25 w' w.heap.size (fun _ => True) v1_ r2 ∧ Below w.heap.size w w' := by
  unfold tape_own.f at h
  by_cases hs : l0_1.length ≤ 1000 ∧ (l0_1.all fun b => decide (b.length ≤ 1000000)) = true
  case neg => rw [if_neg hs] at h; cases h
  rw [if_pos hs] at h
  simp only [Option.some.injEq, Prod.mk.injEq] at h
  obtain ⟨rfl, rfl, rfl⟩ := h
  have hB0 := below_alloc (below_alloc (Below.refl w.heap.size w) (.cells #[.int .i64 a0_0, .slice A0_1 l0_1.length c0_1, .bool a0_2] 41)) (.cells #[.int .i64 0, .slice none 0 0, .bool false] 41)
  have bk1 := blk_alloc (blk_new w (.cells #[.int .i64 a0_0, .slice A0_1 l0_1.length c0_1, .bool a0_2] 41)) (.cells #[.int .i64 0, .slice none 0 0, .bool false] 41)
  have bk2 := blk_new (w.alloc (.cells #[.int .i64 a0_0, .slice A0_1 l0_1.length c0_1, .bool a0_2] 41)) (.cells #[.int .i64 0, .slice none 0 0, .bool false] 41)
  have k1 := blk_cell bk1 1
  have f1 := blk_frozen bk1 1
  have HCALL := Aside0.mk (clone_rows A0_1 c0_1 l0_1 _ w.heap.size (Kd.F_alloc (Kd.F_alloc (Kd.C_F (Kd.heap_slice _ (Kd.heap_int _)) hr0_1) (.cells #[.int .i64 a0_0, .slice A0_1 l0_1.length c0_1, .bool a0_2] 41)) (.cells #[.int .i64 0, .slice none 0 0, .bool false] 41)) (by simp; omega) (by omega))
  have HB0 := Aside0.mk hB0
  have BK1 := Aside0.mk bk1
  have BK2 := Aside0.mk bk2
  have HS := Aside0.mk hs
  clear hB0 bk1 bk2 hs hr0_1 hc0_1
  go_enter Try.func60, Try.ntmps60
  go_wp2_with (go_at_call 58; refine (HCALL.out).mono ?_; rintro e w' ⟨v, rfl, hH, hb⟩; obtain ⟨A1, c1, he⟩ := hH.slice; subst he; have HH := Aside0.mk hH; have BK1' := Aside0.mk (blk_below BK1.out hb); have BK2' := Aside0.mk (blk_below BK2.out hb); have HB' := Aside0.mk (below_step HB0.out hb); clear k1 f1 hH hb; have k1 := blk_cell BK1'.out 1; have f1 := blk_frozen BK1'.out 1)
  go_loopg [3, 4, 12] l0_1.length (fun kq _ _ v12 w' => ∃ (x12 : Int), v12 = .int .i64 x12 ∧ Aside0 (0 ≤ x12 ∧ x12 ≤ l0_1.length ∧ l0_1.length - x12.toNat ≤ kq) ∧ Aside0 (HalfS w' w.heap.size (w.heap.size + 2) (.slice A1 l0_1.length c1) x12.toNat l0_1) ∧ Aside0 (w'.heap[w.heap.size]? = some (.cells #[.int .i64 a0_0, .slice A1 l0_1.length c1, .bool a0_2] 41 (0, 0))) ∧ Aside0 (w'.heap[w.heap.size + 1]? = some (.cells #[.int .i64 0, .slice none 0 0, .bool false] 41 (0, 0))) ∧ Aside0 (Below w.heap.size w w'))
  case atStart =>
    have hu : ((w.alloc (.cells #[.int .i64 a0_0, .slice A0_1 l0_1.length c0_1, .bool a0_2] 41)).alloc (.cells #[.int .i64 0, .slice none 0 0, .bool false] 41)).heap.size = w.heap.size + 2 := by simp
    have hu1 : (w.alloc (.cells #[.int .i64 a0_0, .slice A0_1 l0_1.length c0_1, .bool a0_2] 41)).heap.size = w.heap.size + 1 := by simp
    have h1 := HH.out
    have h2 := BK2'.out
    rw [hu] at h1
    rw [hu1] at h2
    refine ⟨0, rfl, ⟨by omega, by omega, by omega⟩, ⟨h1.far _ _ (Nat.le_refl _) (fun e => ?_) ⟨_, _, BK1'.out, by decide⟩⟩, ⟨blk_put BK1'.out 1 _ rfl⟩, ⟨blk_far h2 (by simp) _⟩, ⟨below_set HB'.out (Nat.le_refl _)⟩⟩
    obtain ⟨f, inner, hb, _⟩ := h1
    have h9 : w.heap.size + 2 ≤ w.heap.size := hb _ e.symm
    omega
  case round =>
    clear HH BK1' BK2' HB' BK1 BK2 HB0 HCALL k1 f1
    obtain ⟨x12, rfl, HI, HH2, BK12, BK22, HB2⟩ := hrel
    by_cases c2 : x12 < (l0_1.length : Int)
    · have c2b0 : decide (x12 < (l0_1.length : Int)) = true := decide_eq_true c2
      have p1 : 0 ≤ x12 := HI.out.1
      obtain ⟨g, cap, he, hbg, hglt, cells, hcg⟩ := HH2.out.form (by omega)
      injection he with he1 he2 he3
      subst he1 he3
      obtain ⟨A2, c2_, hx1, hfr, hl2, hF2⟩ := HH2.out.get (i := x12.toNat) (by omega)
      have hxm : l0_1[x12.toNat].length ≤ 1000000 := of_decide_eq_true (List.all_eq_true.1 HS.out.2 _ (List.getElem_mem _))
      have HX := Aside0.mk (List.getElem?_eq_getElem (by omega : x12.toNat < l0_1.length))
      obtain ⟨x, hx⟩ : ∃ x, l0_1[x12.toNat] = x := ⟨_, rfl⟩
      rw [hx] at hx1 hl2 hF2 hxm HX
      have HF2 := Aside0.mk hF2
      have HXM := Aside0.mk hxm
      have HL2 := Aside0.mk hl2
      have k1 := blk_cell BK12.out 1
      have f1 := blk_frozen BK12.out 1
      have p2 : x12 ≤ 9223372036854775806 := by have := HS.out.1; omega
      have HT := Aside0.mk c2
      have HG := Aside0.mk hcg
      clear hx hF2 hxm hl2 hcg hglt
      replace c2 := eq_true c2
      replace p1 := eq_true p1
      go_wp2
      go_region_with (go_at_call 55; refine (clone_any A2 c2_ x _ (Kd.C_drew (Kd.F_now HF2.out)) HXM.out).mono ?_; rintro e w2 ⟨v, rfl, hR, hb⟩; obtain ⟨A3, c3, he3⟩ := Kd.R_slice hR; subst he3; have hbW := below_step (Below.drew (Below.refl wr.heap.size wr)) hb; have BK1x := Aside0.mk (blk_below BK12.out hbW); have k1x := blk_cell BK1x.out 1; have f1x := blk_frozen BK1x.out 1; have hx1x := pw_cell_below hbW hx1; have hfrx := blk_frozen (blk_below HG.out hbW) x12.toNat; have HBW := Aside0.mk hbW; have HRX := Aside0.mk hR; clear hR hb hbW)
      all_goals (
        go_wp2
        go_roundg (l0_1.length - (x12.toNat + 1))
        case measure => have := HT.out; have := HI.out.1; have := HI.out.2.2; omega
        case rel =>
          have hbs : w.heap.size + 2 ≤ wr.heap.size := by have := blk_lt HG.out; omega
          refine ⟨x12 + 1, wrap_step (by have := HI.out.1; omega) p2, ⟨by have := HI.out.1; omega, by have := HT.out; omega, by have := HI.out.1; omega⟩, ⟨?_⟩, ⟨blk_far BK1x.out (by show w.heap.size ≠ g; omega) _⟩, ⟨blk_far (blk_below BK22.out HBW.out) (by show w.heap.size + 1 ≠ g; omega) _⟩, ⟨below_set (below_step HB2.out HBW.out) (by omega)⟩⟩
          rw [show (x12 + 1).toNat = x12.toNat + 1 by have := HI.out.1; omega]
          exact HH2.out.step HX.out (by omega) hbs HBW.out HRX.out)
    · have c2b0 : decide (x12 < (l0_1.length : Int)) = false := decide_eq_false c2
      have hx12 : x12.toNat = l0_1.length := by have := HI.out.1; have := HI.out.2.1; omega
      have hd := HH2.out
      rw [hx12] at hd
      have HD := Aside0.mk hd.done
      have k10 := blk_cell BK12.out 0
      have k11 := blk_cell BK12.out 1
      have k12 := blk_cell BK12.out 2
      have f20 := blk_frozen BK22.out 0
      have f21 := blk_frozen BK22.out 1
      have f22 := blk_frozen BK22.out 2
      have k20 := blk_cell BK22.out 0
      have k21 := blk_cell BK22.out 1
      have k22 := blk_cell BK22.out 2
      clear c2 hx12 hd
      go_wp2
      have hc3 := blk_put (cs' := #[.int .i64 a0_0, .slice A1 l0_1.length c1, .bool a0_2]) (blk_put (cs' := #[.int .i64 a0_0, .slice A1 l0_1.length c1, .bool false]) (blk_put (cs' := #[.int .i64 a0_0, .slice none 0 0, .bool false]) BK22.out 0 (.int .i64 a0_0) rfl) 1 (.slice A1 l0_1.length c1) rfl) 2 (.bool a0_2) rfl
      refine bodyPost_ret (results_single (r := .cell 2 41) rfl (.cell (w.heap.size + 1) 41 #[.int .i64 a0_0, .slice A1 l0_1.length c1, .bool a0_2] (0, 0) _ rfl hc3 Try.underlying41 rfl (by kernel_rfl) .nil)) rfl ?_
      refine ⟨_, rfl, ?_, below_set (below_set (below_set HB2.out (by omega)) (by omega)) (by omega)⟩
      have hne : ∀ k : Nat, ((w.heap.size + 2 ≤ k) ∧ k < wr.heap.size) → k ≠ w.heap.size + 1 := fun k hk => by omega
      refine Kd.S_mono (Kd.S_lower (Kd.S_step (w1 := ((wr.setCell ⟨w.heap.size + 1, 0, none⟩ (.int .i64 a0_0)).setCell ⟨w.heap.size + 1, 1, none⟩ (.slice A1 l0_1.length c1)).setCell ⟨w.heap.size + 1, 2, none⟩ (.bool a0_2)) (Kd.S_bound HD.out) (fun k hk _ => ?_)) (by omega)) (fun _ _ => trivial)
      have hk2 : k ≠ w.heap.size + 1 := hne k ⟨hk.2.1, hk.2.2.1⟩
      rw [Below.heap_setCell _ ⟨w.heap.size + 1, 2, none⟩ _ k hk2, Below.heap_setCell _ ⟨w.heap.size + 1, 1, none⟩ _ k hk2, Below.heap_setCell _ ⟨w.heap.size + 1, 0, none⟩ _ k hk2]

end Go.Proofs.Ytpbfeegfkiegeaa.M
