/- Part of a claim: what some functions of the program compute, each with its contract; no condition of its own. Written by a program of this workplace (gen.py, over the print of the kit) and by hand. -/
import Derived.Test.YtpbfeegfkiegeaaM0
import Derived.Test.YtpbfeegfkiegeaaM5
import Derived.Test.YtpbfeegfkiegeaaM7
import Derived.Test.YtpbfeegfkiegeaaM8
import Derived.Test.YtpbfeegfkiegeaaM9
import Derived.Test.YtpbfeegfkiegeaaM10
namespace Go.Proofs.Ytpbfeegfkiegeaa.M
open Go.RowKit Go.Proofs.YtpbfeegfkiegeaaW.PrintWords Go.Proofs.YtpbfeegfkiegeaaW.PrintLast Go.Proofs.YtpbfeegfkiegeaaW.PrintMore
attribute [local go_sem] max2_int min2_int max_two min_two max_three min_three max_four min_four   -- for this text's walks alone
set_option linter.unusedVariables false
set_option linter.unusedSimpArgs false

def IsS61 (w0 W : World) (g : Nat) (f0 : List (S41)) (f1 : Int) (f2 : Int) : Prop := ∃ A0 c0, W.heap[g]? = some (.cells #[.slice A0 f0.length c0, .int .i64 f1, .int .i64 f2] 61 (0, 0)) ∧ w0.heap.size ≤ g ∧ Kd.C k41 w0 A0 f0.length f0
theorem IsS61.grown {w0 W : World} {g : Nat} {f0 : List (S41)} {f1 : Int} {f2 : Int} {W1 : World} {row : Option Nat} (h : IsS61 w0 W g f0 f1 f2) (hw : W.grownBy W1 row) (hne : some g ≠ row) : IsS61 w0 W1 g f0 f1 f2 := by
  obtain ⟨A0, c0, hb, hg, hr0⟩ := h
  exact ⟨A0, c0, blk_grown hb hw hne, hg, hr0⟩
theorem IsS61.kept {w0 W : World} {g : Nat} {f0 : List (S41)} {f1 : Int} {f2 : Int} {W1 : World} {S : Nat → Prop} (h : IsS61 w0 W g f0 f1 f2) (hk : Kept W W1 S) (hne : ¬ S g) : IsS61 w0 W1 g f0 f1 f2 := by
  obtain ⟨A0, c0, hb, hg, hr0⟩ := h
  exact ⟨A0, c0, blk_kept hb hk hne, hg, hr0⟩
theorem IsS61.below {w0 W : World} {g : Nat} {f0 : List (S41)} {f1 : Int} {f2 : Int} {W1 : World} (h : IsS61 w0 W g f0 f1 f2) (hw : Below W.heap.size W W1) : IsS61 w0 W1 g f0 f1 f2 := h.grown (grown_of_below hw none) (by simp)
theorem IsS61.alloc {w0 W : World} {g : Nat} {f0 : List (S41)} {f1 : Int} {f2 : Int} (h : IsS61 w0 W g f0 f1 f2) (o : Obj) : IsS61 w0 (W.alloc o) g f0 f1 f2 := h.below (below_alloc (Below.refl _ _) o)
theorem IsS61.drewN {w0 W : World} {g : Nat} {f0 : List (S41)} {f1 : Int} {f2 : Int} (h : IsS61 w0 W g f0 f1 f2) (m : Nat) : IsS61 w0 (W.drewN m) g f0 f1 f2 := h
theorem IsS61.drew {w0 W : World} {g : Nat} {f0 : List (S41)} {f1 : Int} {f2 : Int} (h : IsS61 w0 W g f0 f1 f2) : IsS61 w0 W.drew g f0 f1 f2 := h
theorem IsS61.at_ {w0 W : World} {g : Nat} {f0 : List (S41)} {f1 : Int} {f2 : Int} {w' : World} {m : Nat} (hq : W.drewN m = w') (h : IsS61 w0 W g f0 f1 f2) : IsS61 w0 w' g f0 f1 f2 := by subst hq; exact IsS61.drewN h m
theorem IsS61.apart {w0 W : World} {g : Nat} {f0 : List (S41)} {f1 : Int} {f2 : Int} {α : Type} {d : Kd α} {e : Nat} {base : Nat} {ok : Nat → Prop} {v : Value} {xs : List α} (h : IsS61 w0 W g f0 f1 f2) (ho : d.R e W base ok v xs) (ht : ∀ q, q ∈ e :: d.E → q ≠ 61) : d.R e W base (fun k => ok k ∧ k ≠ g) v xs := by
  obtain ⟨A0, c0, hb, hg, hr0⟩ := h
  exact Kd.R_types ho hb ht
theorem IsS61.own_ne {w0 W : World} {g : Nat} {f0 : List (S41)} {f1 : Int} {f2 : Int} {α : Type} {d : Kd α} {e : Nat} {base : Nat} {ok : Nat → Prop} {v : Value} {xs : List α} (h : IsS61 w0 W g f0 f1 f2) (ho : d.R e W base ok v xs) (ht : e ≠ 61) : some g ≠ v.ownBlock := by
  obtain ⟨A0, c0, hb, hg, hr0⟩ := h
  exact Kd.R_ne ho hb ht
theorem IsS61.ge {w0 W : World} {g : Nat} {f0 : List (S41)} {f1 : Int} {f2 : Int} (h : IsS61 w0 W g f0 f1 f2) : w0.heap.size ≤ g := by
  obtain ⟨A0, c0, hb, hg, hr0⟩ := h
  exact hg
theorem IsS61.far {w0 W : World} {g : Nat} {f0 : List (S41)} {f1 : Int} {f2 : Int} {p : Addr} (h : IsS61 w0 W g f0 f1 f2) (hne : g ≠ p.block) (u : Value) : IsS61 w0 (W.setCell p u) g f0 f1 f2 := by
  obtain ⟨A0, c0, hb, hg, hr0⟩ := h
  exact ⟨A0, c0, blk_far hb hne u, hg, hr0⟩
theorem cellS61_0 {W : World} {g : Nat} {A0 : Option Addr} {c0 : Nat} {f0 : List (S41)} {f1 : Int} {f2 : Int} (h : W.heap[g]? = some (.cells #[.slice A0 f0.length c0, .int .i64 f1, .int .i64 f2] 61 (0, 0))) : W.cell? ⟨g, 0, none⟩ = some (.slice A0 f0.length c0) := (blk_cell h 0).trans rfl
theorem cellS61_1 {W : World} {g : Nat} {A0 : Option Addr} {c0 : Nat} {f0 : List (S41)} {f1 : Int} {f2 : Int} (h : W.heap[g]? = some (.cells #[.slice A0 f0.length c0, .int .i64 f1, .int .i64 f2] 61 (0, 0))) : W.cell? ⟨g, 1, none⟩ = some (.int .i64 f1) := (blk_cell h 1).trans rfl
theorem IsS61.set_1 {w0 W : World} {g : Nat} {f0 : List (S41)} {f1 : Int} {f2 : Int} (h : IsS61 w0 W g f0 f1 f2) (x : Int) : IsS61 w0 (W.setCell ⟨g, 1, none⟩ (.int .i64 x)) g f0 x f2 := by
  obtain ⟨A0, c0, hb, hg, hr0⟩ := h
  exact ⟨A0, c0, by simpa using blk_set hb 1 (.int .i64 x), hg, hr0⟩
theorem cellS61_2 {W : World} {g : Nat} {A0 : Option Addr} {c0 : Nat} {f0 : List (S41)} {f1 : Int} {f2 : Int} (h : W.heap[g]? = some (.cells #[.slice A0 f0.length c0, .int .i64 f1, .int .i64 f2] 61 (0, 0))) : W.cell? ⟨g, 2, none⟩ = some (.int .i64 f2) := (blk_cell h 2).trans rfl
theorem IsS61.set_2 {w0 W : World} {g : Nat} {f0 : List (S41)} {f1 : Int} {f2 : Int} (h : IsS61 w0 W g f0 f1 f2) (x : Int) : IsS61 w0 (W.setCell ⟨g, 2, none⟩ (.int .i64 x)) g f0 f1 x := by
  obtain ⟨A0, c0, hb, hg, hr0⟩ := h
  exact ⟨A0, c0, by simpa using blk_set hb 2 (.int .i64 x), hg, hr0⟩
theorem IsS61.new (w0 W : World) (A0 : Option Addr) (c0 : Nat) (f0 : List (S41)) (f1 : Int) (f2 : Int) (hB : Below w0.heap.size w0 W) (hr0 : Kd.C k41 w0 A0 f0.length f0) : IsS61 w0 (W.alloc (.cells #[.slice A0 f0.length c0, .int .i64 f1, .int .i64 f2] 61)) W.heap.size f0 f1 f2 := ⟨A0, c0, by simpa using heap_alloc_new W _, hB.size, hr0⟩

def drive_hand_out.f (s0_0 : List (S41)) (s0_1 : Int) (s0_2 : Int) : Option (Int × Int × Int) := some (0, (-1), 0)
set_option maxHeartbeats 8000000 in
set_option maxRecDepth 100000 in
theorem drive_hand_out.calls (g : Nat) (s0_0 : List (S41)) (s0_1 : Int) (s0_2 : Int) (r1 : Int) (r2 : Int) (r3 : Int) (w0 w : World) (hI : IsS61 w0 w g s0_0 s0_1 s0_2) (hB : Below w0.heap.size w0 w) (h : drive_hand_out.f s0_0 s0_1 s0_2 = some (r1, r2, r3)) :
    Calls Try.prog 35 #[.pointer (some ⟨g, 0, none⟩)] w fun e w' => e = .returned (.int .i64 r1) ∧ IsS61 w0 w' g s0_0 r2 r3 ∧ Below w0.heap.size w0 w' ∧ KeepBut w w' g none := by
  have HI0 := Aside0.mk hI
  have HK := Aside0.mk (KeepBut.refl w g none)
  have HL := Aside0.mk hB.size
  clear hI
  have HW0 := Aside0.mk hB.size
  have HB := Aside0.mk hB
  clear hB
  have H : (some (0, (-1), 0)) = some (r1, r2, r3) := h
  clear h
  simp only [Option.some.injEq, Prod.mk.injEq] at H
  obtain ⟨rfl, rfl, rfl⟩ := H
  obtain ⟨ASz2_0, cSz2_0, HGz2, hgz2, HSz2_0⟩ := HI0.out
  have hcz2_0 := cellS61_0 HGz2
  have hcz2_1 := cellS61_1 HGz2
  have hcz2_2 := cellS61_2 HGz2
  have hfz2_1 := blk_frozen HGz2 1
  have hfz2_2 := blk_frozen HGz2 2
  clear HGz2 hgz2
  go_enter Try.func35, Try.ntmps35
  go_wp2
  go_ret
  exact ⟨by first | rfl | (simp [errW_none, errW_some] <;> rfl) | (simp [*, errW_none, errW_some] <;> rfl), by repeat (first | (with_reducible first | exact HI0.out | apply IsS61.alloc | apply IsS61.drewN | apply IsS61.drew | apply IsS61.set_1 | apply IsS61.set_2) | exact HI0.out), by repeat (first | (with_reducible first | exact HB.out | apply below_alloc | apply pw_below_drewN | apply below_drew1 | refine below_set ?_ (IsS61.ge HI0.out)) | exact HB.out), by repeat (first | (with_reducible first | exact HK.out | apply KeepBut.set_ | apply keep_drewN | apply keep_drew | apply keep_alloc) | exact HK.out)⟩

def unmountD (l : List S41) (i p : Int) : List S41 × Int × Int × Int := if mayD l i p = true then (if i = -1 then (l, i, p, 9) else (l, -1, 0, 0)) else (l, i, p, 1)
def drive_Unmount.f (l0_0 : List S41) (a0_1 : Int) (a0_2 : Int) : Option (List S41 × Int × Int × Int) := if ownable l0_0 then some (unmountD l0_0 a0_1 a0_2) else none
set_option maxHeartbeats 8000000 in
set_option maxRecDepth 100000 in
theorem drive_Unmount.calls (A0_0 : Option Addr) (c0_0 : Nat) (l0_0 : List S41) (a0_1 : Int) (a0_2 : Int) (r1 : List S41) (r2 : Int) (r3 : Int) (r4 : Int) (w : World) (hr0_0 : Kd.C k41 w A0_0 l0_0.length l0_0) (hc0_0 : l0_0.length ≤ c0_0) (h : drive_Unmount.f l0_0 a0_1 a0_2 = some (r1, r2, r3, r4)) :
    Calls Try.prog 13 #[.agg #[.slice A0_0 l0_0.length c0_0, .int .i64 a0_1, .int .i64 a0_2]] w fun e w' => ∃ v0_ : Value, e = .returned (.tuple #[.agg #[v0_, .int .i64 r2, .int .i64 r3], .int .i64 r4]) ∧ Kd.V k41 41 w' w.heap.size (fun k_ => (w.heap.size ≤ k_)) v0_ r1 ∧ Below w.heap.size w w' := by
  unfold drive_Unmount.f at h
  by_cases hs : ownable l0_0
  case neg => rw [if_neg hs] at h; cases h
  rw [if_pos hs, Option.some.injEq] at h
  have hB0 := below_alloc (below_alloc (Below.refl w.heap.size w) (.cells #[.slice A0_0 l0_0.length c0_0, .int .i64 a0_1, .int .i64 a0_2] 24)) (.cells #[.slice none 0 0, .int .i64 0, .int .i64 0] 24)
  have bk1 := blk_alloc (blk_new w (.cells #[.slice A0_0 l0_0.length c0_0, .int .i64 a0_1, .int .i64 a0_2] 24)) (.cells #[.slice none 0 0, .int .i64 0, .int .i64 0] 24)
  have bk2 := blk_new (w.alloc (.cells #[.slice A0_0 l0_0.length c0_0, .int .i64 a0_1, .int .i64 a0_2] 24)) (.cells #[.slice none 0 0, .int .i64 0, .int .i64 0] 24)
  rw [show (w.alloc (.cells #[.slice A0_0 l0_0.length c0_0, .int .i64 a0_1, .int .i64 a0_2] 24)).heap.size = w.heap.size + 1 by simp] at bk2
  have hws : ((w.alloc (.cells #[.slice A0_0 l0_0.length c0_0, .int .i64 a0_1, .int .i64 a0_2] 24)).alloc (.cells #[.slice none 0 0, .int .i64 0, .int .i64 0] 24)).heap.size = w.heap.size + 2 := by simp
  have hF0 := Kd.F_alloc (Kd.F_alloc (Kd.C_F (Kd.heap_iso _ (Kd.heap_pair (Kd.heap_int _) (Kd.heap_pair (Kd.heap_slice _ (Kd.heap_slice _ (Kd.heap_int _))) Kd.heap_bool))) hr0_0) (.cells #[.slice A0_0 l0_0.length c0_0, .int .i64 a0_1, .int .i64 a0_2] 24)) (.cells #[.slice none 0 0, .int .i64 0, .int .i64 0] 24)
  have hdone : Calls Try.prog 34 #[.agg #[.slice A0_0 l0_0.length c0_0, .int .i64 a0_1, .int .i64 a0_2], .func (.func 35) #[] #[]] ((w.alloc (.cells #[.slice A0_0 l0_0.length c0_0, .int .i64 a0_1, .int .i64 a0_2] 24)).alloc (.cells #[.slice none 0 0, .int .i64 0, .int .i64 0] 24)) fun r w' => ∃ v0 : Value, r = .returned (.tuple #[.agg #[v0, .int .i64 r2, .int .i64 r3], .int .i64 r4]) ∧
      Kd.V k41 41 w' 0 (fun k => w.heap.size + 2 ≤ k) v0 r1 ∧ Below (w.heap.size + 2) ((w.alloc (.cells #[.slice A0_0 l0_0.length c0_0, .int .i64 a0_1, .int .i64 a0_2] 24)).alloc (.cells #[.slice none 0 0, .int .i64 0, .int .i64 0] 24)) w' := by
    rw [← hws]
    unfold unmountD at h
    by_cases hm : mayD l0_0 a0_1 a0_2 = true
    · rw [if_pos hm] at h
      by_cases hi : a0_1 = -1
      · rw [if_pos hi] at h
        simp only [Prod.mk.injEq] at h
        obtain ⟨rfl, rfl, rfl, rfl⟩ := h
        refine (done_not _ A0_0 c0_0 l0_0 a0_1 a0_2 _ (Kd.F_now hF0) hc0_0 hs (fun _ => hi)).mono ?_
        rw [if_pos hm]
        exact fun r w' hq => hq
      · rw [if_neg hi] at h
        simp only [Prod.mk.injEq] at h
        obtain ⟨rfl, rfl, rfl, rfl⟩ := h
        refine (done_way _ #[] (enters_of Try.func35 (by kernel_rfl) rfl) A0_0 c0_0 l0_0 a0_1 a0_2 _ (fun _ => False) (fun _ h9 => h9.elim) (Kd.F_mono hF0 (fun k hk => ⟨by rw [hws]; omega, fun h9 => h9⟩)) hc0_0 hm hi hs 0 l0_0 (-1) 0 (fun _ => True) (fun _ _ _ _ => trivial) (fun _ _ => way_out _ _ _ _ _ (by have := hs.1; omega))).mono ?_
        rintro r w' ⟨v0, rfl, hV, hX, _⟩
        exact ⟨v0, rfl, hV, hX.to⟩
    · rw [if_neg hm] at h
      simp only [Prod.mk.injEq] at h
      obtain ⟨rfl, rfl, rfl, rfl⟩ := h
      refine (done_not _ A0_0 c0_0 l0_0 a0_1 a0_2 _ (Kd.F_now hF0) hc0_0 hs (fun hx => absurd hx hm)).mono ?_
      rw [if_neg hm]
      exact fun r w' hq => hq
  have k10 := blk_cell bk1 0
  have k11 := blk_cell bk1 1
  have k12 := blk_cell bk1 2
  have HD := Aside0.mk hdone
  have HB0 := Aside0.mk hB0
  have BK2 := Aside0.mk bk2
  have HWS := Aside0.mk hws
  clear hF0 hB0 bk1 bk2 hs hr0_0 hc0_0 h hws hdone
  go_enter Try.func13, Try.ntmps13
  go_wp2_with (go_at_call 34; (refine (HD.out).mono ?_; rintro e_ w4 ⟨v0, rfl, hV, hb⟩; obtain ⟨A4, c4, he4⟩ := Kd.V_slice hV; subst he4; have HV4 := Aside0.mk hV; have HB4 := Aside0.mk hb; have b24 := (hb.block (w.heap.size + 1) (by omega)).trans BK2.out; have BK24 := Aside0.mk b24; have m20 := (blk_cell b24 0).trans rfl; have m21 := (blk_cell b24 1).trans rfl; have m22 := (blk_cell b24 2).trans rfl; have g20 := blk_frozen b24 0; have g21 := blk_frozen b24 1; have g22 := blk_frozen b24 2; clear hV hb b24))
  have hb3 := three_put (u0 := .slice A4 r1.length c4) (u1 := .int .i64 r2) (u2 := .int .i64 r3) BK24.out
  refine bodyPost_ret (results_ct rfl _ _ (w.heap.size + 1) 24 _ (0, 0) _ rfl hb3 Try.underlying24 rfl (by kernel_rfl)) rfl ?_
  exact ⟨_, rfl, Kd.V_mono (Kd.V_step HV4.out (fun k hk _ => three_heap (by omega))) (fun k hk => by omega), three_below (HB0.out.trans (HB4.out.mono (by omega))) (by omega)⟩

def drive_hand_back.f (s0_0 : List (S41)) (s0_1 : Int) (s0_2 : Int) : Option (Int × Int × Int) := some (0, s0_1, 0)
set_option maxHeartbeats 8000000 in
set_option maxRecDepth 100000 in
theorem drive_hand_back.calls (g : Nat) (s0_0 : List (S41)) (s0_1 : Int) (s0_2 : Int) (r1 : Int) (r2 : Int) (r3 : Int) (w0 w : World) (hI : IsS61 w0 w g s0_0 s0_1 s0_2) (hB : Below w0.heap.size w0 w) (h : drive_hand_back.f s0_0 s0_1 s0_2 = some (r1, r2, r3)) :
    Calls Try.prog 37 #[.pointer (some ⟨g, 0, none⟩)] w fun e w' => e = .returned (.int .i64 r1) ∧ IsS61 w0 w' g s0_0 r2 r3 ∧ Below w0.heap.size w0 w' ∧ KeepBut w w' g none := by
  have HI0 := Aside0.mk hI
  have HK := Aside0.mk (KeepBut.refl w g none)
  have HL := Aside0.mk hB.size
  clear hI
  have HW0 := Aside0.mk hB.size
  have HB := Aside0.mk hB
  clear hB
  have H : (some (0, s0_1, 0)) = some (r1, r2, r3) := h
  clear h
  simp only [Option.some.injEq, Prod.mk.injEq] at H
  obtain ⟨rfl, rfl, rfl⟩ := H
  obtain ⟨ASz2_0, cSz2_0, HGz2, hgz2, HSz2_0⟩ := HI0.out
  have hcz2_0 := cellS61_0 HGz2
  have hcz2_1 := cellS61_1 HGz2
  have hcz2_2 := cellS61_2 HGz2
  have hfz2_1 := blk_frozen HGz2 1
  have hfz2_2 := blk_frozen HGz2 2
  clear HGz2 hgz2
  go_enter Try.func37, Try.ntmps37
  go_wp2
  go_ret
  exact ⟨by first | rfl | (simp [errW_none, errW_some] <;> rfl) | (simp [*, errW_none, errW_some] <;> rfl), by repeat (first | (with_reducible first | exact HI0.out | apply IsS61.alloc | apply IsS61.drewN | apply IsS61.drew | apply IsS61.set_1 | apply IsS61.set_2) | exact HI0.out), by repeat (first | (with_reducible first | exact HB.out | apply below_alloc | apply pw_below_drewN | apply below_drew1 | refine below_set ?_ (IsS61.ge HI0.out)) | exact HB.out), by repeat (first | (with_reducible first | exact HK.out | apply KeepBut.set_ | apply keep_drewN | apply keep_drew | apply keep_alloc) | exact HK.out)⟩

def rewindD (l : List S41) (i p : Int) : List S41 × Int × Int × Int := if mayD l i p = true then (if i = -1 then (l, i, p, 9) else (l, i, 0, 0)) else (l, i, p, 1)
def drive_Rewind.f (l0_0 : List S41) (a0_1 : Int) (a0_2 : Int) : Option (List S41 × Int × Int × Int) := if ownable l0_0 then some (rewindD l0_0 a0_1 a0_2) else none
set_option maxHeartbeats 8000000 in
set_option maxRecDepth 100000 in
theorem drive_Rewind.calls (A0_0 : Option Addr) (c0_0 : Nat) (l0_0 : List S41) (a0_1 : Int) (a0_2 : Int) (r1 : List S41) (r2 : Int) (r3 : Int) (r4 : Int) (w : World) (hr0_0 : Kd.C k41 w A0_0 l0_0.length l0_0) (hc0_0 : l0_0.length ≤ c0_0) (h : drive_Rewind.f l0_0 a0_1 a0_2 = some (r1, r2, r3, r4)) :
    Calls Try.prog 15 #[.agg #[.slice A0_0 l0_0.length c0_0, .int .i64 a0_1, .int .i64 a0_2]] w fun e w' => ∃ v0_ : Value, e = .returned (.tuple #[.agg #[v0_, .int .i64 r2, .int .i64 r3], .int .i64 r4]) ∧ Kd.V k41 41 w' w.heap.size (fun k_ => (w.heap.size ≤ k_)) v0_ r1 ∧ Below w.heap.size w w' := by
  unfold drive_Rewind.f at h
  by_cases hs : ownable l0_0
  case neg => rw [if_neg hs] at h; cases h
  rw [if_pos hs, Option.some.injEq] at h
  have hB0 := below_alloc (below_alloc (Below.refl w.heap.size w) (.cells #[.slice A0_0 l0_0.length c0_0, .int .i64 a0_1, .int .i64 a0_2] 24)) (.cells #[.slice none 0 0, .int .i64 0, .int .i64 0] 24)
  have bk1 := blk_alloc (blk_new w (.cells #[.slice A0_0 l0_0.length c0_0, .int .i64 a0_1, .int .i64 a0_2] 24)) (.cells #[.slice none 0 0, .int .i64 0, .int .i64 0] 24)
  have bk2 := blk_new (w.alloc (.cells #[.slice A0_0 l0_0.length c0_0, .int .i64 a0_1, .int .i64 a0_2] 24)) (.cells #[.slice none 0 0, .int .i64 0, .int .i64 0] 24)
  rw [show (w.alloc (.cells #[.slice A0_0 l0_0.length c0_0, .int .i64 a0_1, .int .i64 a0_2] 24)).heap.size = w.heap.size + 1 by simp] at bk2
  have hws : ((w.alloc (.cells #[.slice A0_0 l0_0.length c0_0, .int .i64 a0_1, .int .i64 a0_2] 24)).alloc (.cells #[.slice none 0 0, .int .i64 0, .int .i64 0] 24)).heap.size = w.heap.size + 2 := by simp
  have hF0 := Kd.F_alloc (Kd.F_alloc (Kd.C_F (Kd.heap_iso _ (Kd.heap_pair (Kd.heap_int _) (Kd.heap_pair (Kd.heap_slice _ (Kd.heap_slice _ (Kd.heap_int _))) Kd.heap_bool))) hr0_0) (.cells #[.slice A0_0 l0_0.length c0_0, .int .i64 a0_1, .int .i64 a0_2] 24)) (.cells #[.slice none 0 0, .int .i64 0, .int .i64 0] 24)
  have hdone : Calls Try.prog 34 #[.agg #[.slice A0_0 l0_0.length c0_0, .int .i64 a0_1, .int .i64 a0_2], .func (.func 37) #[] #[]] ((w.alloc (.cells #[.slice A0_0 l0_0.length c0_0, .int .i64 a0_1, .int .i64 a0_2] 24)).alloc (.cells #[.slice none 0 0, .int .i64 0, .int .i64 0] 24)) fun r w' => ∃ v0 : Value, r = .returned (.tuple #[.agg #[v0, .int .i64 r2, .int .i64 r3], .int .i64 r4]) ∧
      Kd.V k41 41 w' 0 (fun k => w.heap.size + 2 ≤ k) v0 r1 ∧ Below (w.heap.size + 2) ((w.alloc (.cells #[.slice A0_0 l0_0.length c0_0, .int .i64 a0_1, .int .i64 a0_2] 24)).alloc (.cells #[.slice none 0 0, .int .i64 0, .int .i64 0] 24)) w' := by
    rw [← hws]
    unfold rewindD at h
    by_cases hm : mayD l0_0 a0_1 a0_2 = true
    · rw [if_pos hm] at h
      by_cases hi : a0_1 = -1
      · rw [if_pos hi] at h
        simp only [Prod.mk.injEq] at h
        obtain ⟨rfl, rfl, rfl, rfl⟩ := h
        refine (done_not _ A0_0 c0_0 l0_0 a0_1 a0_2 _ (Kd.F_now hF0) hc0_0 hs (fun _ => hi)).mono ?_
        rw [if_pos hm]
        exact fun r w' hq => hq
      · rw [if_neg hi] at h
        simp only [Prod.mk.injEq] at h
        obtain ⟨rfl, rfl, rfl, rfl⟩ := h
        refine (done_way _ #[] (enters_of Try.func37 (by kernel_rfl) rfl) A0_0 c0_0 l0_0 a0_1 a0_2 _ (fun _ => False) (fun _ h9 => h9.elim) (Kd.F_mono hF0 (fun k hk => ⟨by rw [hws]; omega, fun h9 => h9⟩)) hc0_0 hm hi hs 0 l0_0 a0_1 0 (fun _ => True) (fun _ _ _ _ => trivial) (fun _ _ => way_back _ _ _ _ _ (by have := hs.1; omega))).mono ?_
        rintro r w' ⟨v0, rfl, hV, hX, _⟩
        exact ⟨v0, rfl, hV, hX.to⟩
    · rw [if_neg hm] at h
      simp only [Prod.mk.injEq] at h
      obtain ⟨rfl, rfl, rfl, rfl⟩ := h
      refine (done_not _ A0_0 c0_0 l0_0 a0_1 a0_2 _ (Kd.F_now hF0) hc0_0 hs (fun hx => absurd hx hm)).mono ?_
      rw [if_neg hm]
      exact fun r w' hq => hq
  have k10 := blk_cell bk1 0
  have k11 := blk_cell bk1 1
  have k12 := blk_cell bk1 2
  have HD := Aside0.mk hdone
  have HB0 := Aside0.mk hB0
  have BK2 := Aside0.mk bk2
  have HWS := Aside0.mk hws
  clear hF0 hB0 bk1 bk2 hs hr0_0 hc0_0 h hws hdone
  go_enter Try.func15, Try.ntmps15
  go_wp2_with (go_at_call 34; (refine (HD.out).mono ?_; rintro e_ w4 ⟨v0, rfl, hV, hb⟩; obtain ⟨A4, c4, he4⟩ := Kd.V_slice hV; subst he4; have HV4 := Aside0.mk hV; have HB4 := Aside0.mk hb; have b24 := (hb.block (w.heap.size + 1) (by omega)).trans BK2.out; have BK24 := Aside0.mk b24; have m20 := (blk_cell b24 0).trans rfl; have m21 := (blk_cell b24 1).trans rfl; have m22 := (blk_cell b24 2).trans rfl; have g20 := blk_frozen b24 0; have g21 := blk_frozen b24 1; have g22 := blk_frozen b24 2; clear hV hb b24))
  have hb3 := three_put (u0 := .slice A4 r1.length c4) (u1 := .int .i64 r2) (u2 := .int .i64 r3) BK24.out
  refine bodyPost_ret (results_ct rfl _ _ (w.heap.size + 1) 24 _ (0, 0) _ rfl hb3 Try.underlying24 rfl (by kernel_rfl)) rfl ?_
  exact ⟨_, rfl, Kd.V_mono (Kd.V_step HV4.out (fun k hk _ => three_heap (by omega))) (fun k hk => by omega), three_below (HB0.out.trans (HB4.out.mono (by omega))) (by omega)⟩

end Go.Proofs.Ytpbfeegfkiegeaa.M
