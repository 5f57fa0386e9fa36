/- Part of a claim: what some functions of the program compute, each with its contract; no condition of its own. Written by a program of this workplace (gen.py, over the print of the kit) and by hand. -/
import Derived.Test.YtpbfeegfkiegeaaM0
import Derived.Test.YtpbfeegfkiegeaaM3
import Derived.Test.YtpbfeegfkiegeaaM5
import Derived.Test.YtpbfeegfkiegeaaM6
import Derived.Test.YtpbfeegfkiegeaaM7
import Derived.Test.YtpbfeegfkiegeaaM8
namespace Go.Proofs.Ytpbfeegfkiegeaa.M
open Go.RowKit Go.Proofs.YtpbfeegfkiegeaaW.PrintWords Go.Proofs.YtpbfeegfkiegeaaW.PrintLast Go.Proofs.YtpbfeegfkiegeaaW.PrintMore
attribute [local go_sem] max2_int min2_int max_two min_two max_three min_three max_four min_four   -- for this text's walks alone
set_option linter.unusedVariables false
set_option linter.unusedSimpArgs false

def BelowX (B : Nat) (X : Nat → Prop) (w w' : World) : Prop := w'.os = w.os ∧ w'.tape = w.tape ∧ w'.output = w.output ∧ w.heap.size ≤ w'.heap.size ∧ ∀ k, k < B → ¬ X k → w'.heap[k]? = w.heap[k]?
theorem BelowX.to {B : Nat} {w w' : World} (h : BelowX B (fun _ => False) w w') : Below B w w' := ⟨h.1, h.2.1, h.2.2.1, h.2.2.2.1, fun k hk => h.2.2.2.2 k hk (fun h => h)⟩
theorem BelowX.of {B : Nat} {X : Nat → Prop} {w w' : World} (h : Below B w w') : BelowX B X w w' := ⟨h.os, h.tape, h.output, h.size, fun k hk _ => h.block k hk⟩
theorem BelowX.trans {B : Nat} {X : Nat → Prop} {w w' w'' : World} (h : BelowX B X w w') (h2 : BelowX B X w' w'') : BelowX B X w w'' := ⟨h2.1.trans h.1, h2.2.1.trans h.2.1, h2.2.2.1.trans h.2.2.1, Nat.le_trans h.2.2.2.1 h2.2.2.2.1, fun k hk hx => (h2.2.2.2.2 k hk hx).trans (h.2.2.2.2 k hk hx)⟩
theorem BelowX.mono {B B' : Nat} {X : Nat → Prop} {w w' : World} (h : BelowX B X w w') (hb : B' ≤ B) : BelowX B' X w w' := ⟨h.1, h.2.1, h.2.2.1, h.2.2.2.1, fun k hk hx => h.2.2.2.2 k (by omega) hx⟩
theorem BelowX.set {B : Nat} {X : Nat → Prop} {w w' : World} (h : BelowX B X w w') {p : Addr} (hp : B ≤ p.block ∨ X p.block) (u : Value) : BelowX B X w (w'.setCell p u) :=
  ⟨h.1, h.2.1, h.2.2.1, by simpa [World.setCell] using h.2.2.2.1, fun k hk hx => (Below.heap_setCell w' p u k (by rintro rfl; exact hp.elim (fun h9 => absurd hk (Nat.not_lt.2 h9)) hx)).trans (h.2.2.2.2 k hk hx)⟩
theorem BelowX.drew {B : Nat} {X : Nat → Prop} {w w' : World} (h : BelowX B X w w') : BelowX B X w w'.drew := ⟨h.1, h.2.1, h.2.2.1, h.2.2.2.1, h.2.2.2.2⟩
def Way (wf : Nat) (lb : Array Value) (w : World) (X : Nat → Prop) (l : List S41) (i p : Int) (e : Int) (l' : List S41) (i' p' : Int) (Ex : World → Prop) : Prop :=
  ∀ (W0 W : World) (h : Nat) (A : Option Addr) (c : Nat), Below w.heap.size w W → l.length ≤ c → HalfD W0 0 (w.heap.size + 2) A l.length l → W0.heap.size = h → w.heap.size + 2 ≤ h → Below W0.heap.size W0 W →
    W.heap[h]? = some (.cells #[.slice A l.length c, .int .i64 i, .int .i64 p] 61 (0, 0)) →
    Calls Try.prog wf (#[.pointer (some ⟨h, 0, none⟩)] ++ lb) W fun r W' => r = .returned (.int .i64 e) ∧ W'.heap[h]? = some (.cells #[.slice A l.length c, .int .i64 i', .int .i64 p'] 61 (0, 0)) ∧
      (e = 0 → Kd.V k41 41 W' 0 (fun k => w.heap.size + 2 ≤ k) (.slice A l.length c) l') ∧ BelowX (w.heap.size + 2) X W W' ∧ Ex W'
set_option maxHeartbeats 8000000 in
set_option maxRecDepth 100000 in
theorem done_way (wf : Nat) (lb : Array Value) (eg : ∀ args w, (callFunc wf args).run Try.prog w = .ok (.enter wf args) w) (A0 : Option Addr) (c0 : Nat) (l : List S41) (i p : Int) (w : World) (X : Nat → Prop) (hX : ∀ k, X k → k < w.heap.size)
    (hr : Kd.F k41 w (fun k => k < w.heap.size ∧ ¬ X k) A0 l.length l) (hc : l.length ≤ c0) (hm : mayD l i p = true) (hi : i ≠ -1) (hs : ownable l) (e : Int) (l' : List S41) (i' p' : Int) (Ex : World → Prop)
    (hEx : ∀ W W' : World, Ex W → (∀ k, k < W.heap.size → k ≠ w.heap.size + 1 → W'.heap[k]? = W.heap[k]?) → Ex W') (hway : ∀ w1 : World, w1.heap.size = w.heap.size → Way wf lb w X l i p e l' i' p' Ex) :
    Calls Try.prog 34 #[.agg #[.slice A0 l.length c0, .int .i64 i, .int .i64 p], .func (.func wf) #[] lb] w fun r w' => ∃ v0 : Value, r = .returned (.tuple #[.agg #[v0, .int .i64 (if e = 0 then i' else i), .int .i64 (if e = 0 then p' else p)], .int .i64 e]) ∧
      Kd.V k41 41 w' w.heap.size (fun k => w.heap.size ≤ k) v0 (if e = 0 then l' else l) ∧ BelowX w.heap.size X w w' ∧ Ex w' := by
  have hB0 := below_alloc (below_alloc (Below.refl w.heap.size w) (.cells #[.slice A0 l.length c0, .int .i64 i, .int .i64 p] 24)) (.cells #[.slice none 0 0, .int .i64 0, .int .i64 0] 24)
  have bk1 := blk_alloc (blk_new w (.cells #[.slice A0 l.length c0, .int .i64 i, .int .i64 p] 24)) (.cells #[.slice none 0 0, .int .i64 0, .int .i64 0] 24)
  have bk2 := blk_new (w.alloc (.cells #[.slice A0 l.length c0, .int .i64 i, .int .i64 p] 24)) (.cells #[.slice none 0 0, .int .i64 0, .int .i64 0] 24)
  rw [show (w.alloc (.cells #[.slice A0 l.length c0, .int .i64 i, .int .i64 p] 24)).heap.size = w.heap.size + 1 by simp] at bk2
  have hws : ((w.alloc (.cells #[.slice A0 l.length c0, .int .i64 i, .int .i64 p] 24)).alloc (.cells #[.slice none 0 0, .int .i64 0, .int .i64 0] 24)).heap.size = w.heap.size + 2 := by simp
  have k10 := blk_cell bk1 0
  have k11 := blk_cell bk1 1
  have k12 := blk_cell bk1 2
  have hF0 := Kd.F_alloc (Kd.F_alloc hr (.cells #[.slice A0 l.length c0, .int .i64 i, .int .i64 p] 24)) (.cells #[.slice none 0 0, .int .i64 0, .int .i64 0] 24)
  have HMAY := Aside0.mk (drive_May.calls A0 c0 l i p true _ (Kd.F_now hF0) hc (by unfold drive_May.f; rw [hm]))
  have HF0 := Aside0.mk hF0
  have HC := Aside0.mk hc
  have HB0 := Aside0.mk hB0
  have BK1 := Aside0.mk bk1
  have BK2 := Aside0.mk bk2
  have HS := Aside0.mk hs
  have HWS := Aside0.mk hws
  have HX := Aside0.mk hX
  have HEX := Aside0.mk hEx
  have HWAY := Aside0.mk (hway w rfl)
  have d1 : (i != -1) = true := bne_iff_ne.2 hi
  have d2 : (i == -1) = false := beq_eq_false_iff_ne.2 hi
  clear hF0 hB0 bk1 bk2 hs hr hc hws hm hi hX hEx hway
  by_cases he : e = 0
  · subst he
    have e1 : ((0 : Int) == 0) = true := rfl
    have e2 : ((0 : Int) != 0) = false := rfl
    rw [if_pos rfl, if_pos rfl, if_pos rfl]
    go_enter Try.func34, Try.ntmps34
    go_wp2_with (first | (go_at_call 27; (refine (HMAY.out).mono ?_; rintro e_ w4 ⟨rfl, hb⟩; have HB4 := Aside0.mk hb; have b14 := blk_below BK1.out hb; have BK14 := Aside0.mk b14; have BK24 := Aside0.mk (blk_below BK2.out hb); have HF4 := Aside0.mk (Kd.F_below HF0.out hb); have HW4 := Aside0.mk (show w.heap.size + 2 ≤ w4.heap.size by have h1 := hb.size; have h2 := HWS.out; omega); clear k10 k11 k12 HMAY hb; have k10 := (blk_cell b14 0).trans rfl; have k11 := (blk_cell b14 1).trans rfl; have k12 := (blk_cell b14 2).trans rfl; clear b14)) | (go_at_call 33; (refine (drive_own.says A0 c0 l i p _ (Kd.F_now HF4.out) HC.out HS.out).mono ?_; rintro e_ w5 ⟨A1, c1, rfl, hc1, hH, hb⟩; have HC1 := Aside0.mk hc1; have HH := Aside0.mk (hH.base HW4.out); have HB5 := Aside0.mk hb; have b15 := blk_below BK14.out hb; have b25 := blk_below BK24.out hb; have BK15 := Aside0.mk b15; have BK25 := Aside0.mk b25; have HF5 := Aside0.mk (Kd.F_below HF4.out hb); have HW5 := Aside0.mk (show w.heap.size + 2 ≤ w5.heap.size by have h1 := hb.size; have h2 := HW4.out; omega); clear k10 k11 k12 hc1 hH hb HF4 b15 b25)) | (go_at_fn wf; (refine (HWAY.out w5 _ w5.heap.size A1 c1 (below_alloc (below_step (below_step HB0.out HB4.out) HB5.out) _) HC1.out HH.out rfl HW5.out (below_alloc (Below.refl _ _) _) (blk_new w5 _)).mono ?_; rintro r w7 ⟨rfl, hk, hV, hX7, hE7⟩; have hq0 := (blk_cell hk 0).trans rfl; have hq1 := (blk_cell hk 1).trans rfl; have hq2 := (blk_cell hk 2).trans rfl; have b27 := (hX7.2.2.2.2 (w.heap.size + 1) (by omega) (fun h9 => by have := HX.out _ h9; omega)).trans (blk_alloc BK25.out _); have b17 := (hX7.2.2.2.2 w.heap.size (by omega) (fun h9 => by have := HX.out _ h9; omega)).trans (blk_alloc BK15.out _); have BK27 := Aside0.mk b27; have BK17 := Aside0.mk b17; have m20 := (blk_cell b27 0).trans rfl; have m21 := (blk_cell b27 1).trans rfl; have m22 := (blk_cell b27 2).trans rfl; have g20 := blk_frozen b27 0; have g21 := blk_frozen b27 1; have g22 := blk_frozen b27 2; have HV7 := Aside0.mk hV; have HX7 := Aside0.mk hX7; have HE7 := Aside0.mk hE7; clear hk hV hX7 hE7 b27 b17)))
    have hb3 := three_put (u0 := .slice A1 l.length c1) (u1 := .int .i64 i') (u2 := .int .i64 p') BK27.out
    refine bodyPost_ret (results_ct rfl _ _ (w.heap.size + 1) 24 _ (0, 0) _ rfl hb3 Try.underlying24 rfl (by kernel_rfl)) rfl ?_
    refine ⟨_, rfl, Kd.V_mono (Kd.V_step (HV7.out (by first | rfl | trivial)) (fun k hk _ => three_heap (by omega))) (fun k hk => by omega), ?_, ?_⟩
    · exact BelowX.set (BelowX.set (BelowX.set (BelowX.trans (BelowX.of (below_alloc (below_step (below_step HB0.out HB4.out) HB5.out) _)) (HX7.out.mono (by omega))) (.inl (by show w.heap.size ≤ w.heap.size + 1; omega)) _) (.inl (by show w.heap.size ≤ w.heap.size + 1; omega)) _) (.inl (by show w.heap.size ≤ w.heap.size + 1; omega)) _
    · exact HEX.out _ _ HE7.out (fun k _ hne => three_heap hne)
  · have e1 : (e == 0) = false := beq_eq_false_iff_ne.2 he
    have e2 : (e != 0) = true := bne_iff_ne.2 he
    rw [if_neg he, if_neg he, if_neg he]
    have HE := Aside0.mk he
    clear he
    go_enter Try.func34, Try.ntmps34
    go_wp2_with (first | (go_at_call 27; (refine (HMAY.out).mono ?_; rintro e_ w4 ⟨rfl, hb⟩; have HB4 := Aside0.mk hb; have b14 := blk_below BK1.out hb; have BK14 := Aside0.mk b14; have BK24 := Aside0.mk (blk_below BK2.out hb); have HF4 := Aside0.mk (Kd.F_below HF0.out hb); have HW4 := Aside0.mk (show w.heap.size + 2 ≤ w4.heap.size by have h1 := hb.size; have h2 := HWS.out; omega); clear k10 k11 k12 HMAY hb; have k10 := (blk_cell b14 0).trans rfl; have k11 := (blk_cell b14 1).trans rfl; have k12 := (blk_cell b14 2).trans rfl; clear b14)) | (go_at_call 33; (refine (drive_own.says A0 c0 l i p _ (Kd.F_now HF4.out) HC.out HS.out).mono ?_; rintro e_ w5 ⟨A1, c1, rfl, hc1, hH, hb⟩; have HC1 := Aside0.mk hc1; have HH := Aside0.mk (hH.base HW4.out); have HB5 := Aside0.mk hb; have b15 := blk_below BK14.out hb; have b25 := blk_below BK24.out hb; have BK15 := Aside0.mk b15; have BK25 := Aside0.mk b25; have HF5 := Aside0.mk (Kd.F_below HF4.out hb); have HW5 := Aside0.mk (show w.heap.size + 2 ≤ w5.heap.size by have h1 := hb.size; have h2 := HW4.out; omega); clear k10 k11 k12 hc1 hH hb HF4 b15 b25)) | (go_at_fn wf; (refine (HWAY.out w5 _ w5.heap.size A1 c1 (below_alloc (below_step (below_step HB0.out HB4.out) HB5.out) _) HC1.out HH.out rfl HW5.out (below_alloc (Below.refl _ _) _) (blk_new w5 _)).mono ?_; rintro r w7 ⟨rfl, hk, hV, hX7, hE7⟩; have hq0 := (blk_cell hk 0).trans rfl; have hq1 := (blk_cell hk 1).trans rfl; have hq2 := (blk_cell hk 2).trans rfl; have b27 := (hX7.2.2.2.2 (w.heap.size + 1) (by omega) (fun h9 => by have := HX.out _ h9; omega)).trans (blk_alloc BK25.out _); have b17 := (hX7.2.2.2.2 w.heap.size (by omega) (fun h9 => by have := HX.out _ h9; omega)).trans (blk_alloc BK15.out _); have BK27 := Aside0.mk b27; have BK17 := Aside0.mk b17; have m20 := (blk_cell b27 0).trans rfl; have m21 := (blk_cell b27 1).trans rfl; have m22 := (blk_cell b27 2).trans rfl; have g20 := blk_frozen b27 0; have g21 := blk_frozen b27 1; have g22 := blk_frozen b27 2; have HF7 := Aside0.mk (show Kd.F k41 w7 (fun k => k < w.heap.size ∧ ¬ X k) A0 l.length l from Kd.F_step (Kd.F_alloc HF5.out _) (fun k hk _ => hX7.2.2.2.2 k (by omega) hk.2)); have q10 := (blk_cell b17 0).trans rfl; have q11 := (blk_cell b17 1).trans rfl; have q12 := (blk_cell b17 2).trans rfl; have HX7 := Aside0.mk hX7; have HE7 := Aside0.mk hE7; clear hk hV hX7 hE7 b27 b17)) | (go_at_call 33; (refine (drive_own.says A0 c0 l i p _ (Kd.F_now HF7.out) HC.out HS.out).mono ?_; rintro e_ w9 ⟨A9, c9, rfl, hc9, hH9, hb9⟩; have HC9 := Aside0.mk hc9; have HH9 := Aside0.mk hH9; have HB9 := Aside0.mk hb9; have b29 := blk_below BK27.out hb9; have BK29 := Aside0.mk b29; clear m20 m21 m22 g20 g21 g22 hc9 hH9 hb9; have m20 := (blk_cell b29 0).trans rfl; have m21 := (blk_cell b29 1).trans rfl; have m22 := (blk_cell b29 2).trans rfl; have g20 := blk_frozen b29 0; have g21 := blk_frozen b29 1; have g22 := blk_frozen b29 2; clear b29 HF7)))
    have hb3 := three_put (u0 := .slice A9 l.length c9) (u1 := .int .i64 i) (u2 := .int .i64 p) BK29.out
    have hw7 : w.heap.size + 2 ≤ w7.heap.size := by have h1 := HX7.out.2.2.2.1; have h2 := HW5.out; simp at h1; omega
    refine bodyPost_ret (results_ct rfl _ _ (w.heap.size + 1) 24 _ (0, 0) _ rfl hb3 Try.underlying24 rfl (by kernel_rfl)) rfl ?_
    refine ⟨_, rfl, Kd.V_mono (Kd.V_step (HH9.out.V (B := w.heap.size) (by have := HS.out.1; omega) HC9.out) (fun k hk _ => three_heap (by omega))) (fun k hk => by omega), ?_, ?_⟩
    · exact BelowX.set (BelowX.set (BelowX.set (BelowX.trans (BelowX.trans (BelowX.of (below_alloc (below_step (below_step HB0.out HB4.out) HB5.out) _)) (HX7.out.mono (by omega))) (BelowX.of (HB9.out.mono (by omega)))) (.inl (by show w.heap.size ≤ w.heap.size + 1; omega)) _) (.inl (by show w.heap.size ≤ w.heap.size + 1; omega)) _) (.inl (by show w.heap.size ≤ w.heap.size + 1; omega)) _
    · exact HEX.out _ _ HE7.out (fun k hlt hne => (three_heap hne).trans (HB9.out.block k hlt))
set_option maxHeartbeats 8000000 in
set_option maxRecDepth 100000 in
theorem done_not (fv : Value) (A0 : Option Addr) (c0 : Nat) (l : List S41) (i p : Int) (w : World) (hr : Kd.C k41 w A0 l.length l) (hc : l.length ≤ c0) (hs : ownable l) (hn : mayD l i p = true → i = -1) :
    Calls Try.prog 34 #[.agg #[.slice A0 l.length c0, .int .i64 i, .int .i64 p], fv] w fun r w' => ∃ v0 : Value, r = .returned (.tuple #[.agg #[v0, .int .i64 i, .int .i64 p], .int .i64 (if mayD l i p = true then 9 else 1)]) ∧
      Kd.V k41 41 w' w.heap.size (fun k => w.heap.size ≤ k) v0 l ∧ Below w.heap.size w w' := by
  have hB0 := below_alloc (below_alloc (Below.refl w.heap.size w) (.cells #[.slice A0 l.length c0, .int .i64 i, .int .i64 p] 24)) (.cells #[.slice none 0 0, .int .i64 0, .int .i64 0] 24)
  have bk1 := blk_alloc (blk_new w (.cells #[.slice A0 l.length c0, .int .i64 i, .int .i64 p] 24)) (.cells #[.slice none 0 0, .int .i64 0, .int .i64 0] 24)
  have bk2 := blk_new (w.alloc (.cells #[.slice A0 l.length c0, .int .i64 i, .int .i64 p] 24)) (.cells #[.slice none 0 0, .int .i64 0, .int .i64 0] 24)
  rw [show (w.alloc (.cells #[.slice A0 l.length c0, .int .i64 i, .int .i64 p] 24)).heap.size = w.heap.size + 1 by simp] at bk2
  have hws : ((w.alloc (.cells #[.slice A0 l.length c0, .int .i64 i, .int .i64 p] 24)).alloc (.cells #[.slice none 0 0, .int .i64 0, .int .i64 0] 24)).heap.size = w.heap.size + 2 := by simp
  have k10 := blk_cell bk1 0
  have k11 := blk_cell bk1 1
  have k12 := blk_cell bk1 2
  have hC0 := Kd.C_alloc (Kd.C_alloc hr (.cells #[.slice A0 l.length c0, .int .i64 i, .int .i64 p] 24)) (.cells #[.slice none 0 0, .int .i64 0, .int .i64 0] 24)
  have HMAY := Aside0.mk (drive_May.calls A0 c0 l i p (mayD l i p) _ hC0 hc rfl)
  have HC0 := Aside0.mk hC0
  have HC := Aside0.mk hc
  have HB0 := Aside0.mk hB0
  have BK1 := Aside0.mk bk1
  have BK2 := Aside0.mk bk2
  have HS := Aside0.mk hs
  have HWS := Aside0.mk hws
  clear hC0 hB0 bk1 bk2 hs hr hc hws
  cases hm : mayD l i p with
  | false =>
    rw [hm] at HMAY
    rw [if_neg (by decide)]
    clear hm hn
    go_enter Try.func34, Try.ntmps34
    go_wp2_with (first | (go_at_call 27; (refine (HMAY.out).mono ?_; rintro e_ w4 ⟨rfl, hb⟩; have HB4 := Aside0.mk hb; have b14 := blk_below BK1.out hb; have BK24 := Aside0.mk (blk_below BK2.out hb); have HC4 := Aside0.mk (Kd.C_below HC0.out hb); have HW4 := Aside0.mk (show w.heap.size + 2 ≤ w4.heap.size by have h1 := hb.size; have h2 := HWS.out; omega); clear k10 k11 k12 HMAY hb; have k10 := (blk_cell b14 0).trans rfl; have k11 := (blk_cell b14 1).trans rfl; have k12 := (blk_cell b14 2).trans rfl; clear b14)) | (go_at_call 33; (refine (drive_own.says A0 c0 l _ p _ HC4.out HC.out HS.out).mono ?_; rintro e_ w9 ⟨A9, c9, rfl, hc9, hH9, hb9⟩; have HC9 := Aside0.mk hc9; have HH9 := Aside0.mk hH9; have HB9 := Aside0.mk hb9; have b29 := blk_below BK24.out hb9; have BK29 := Aside0.mk b29; have m20 := (blk_cell b29 0).trans rfl; have m21 := (blk_cell b29 1).trans rfl; have m22 := (blk_cell b29 2).trans rfl; have g20 := blk_frozen b29 0; have g21 := blk_frozen b29 1; have g22 := blk_frozen b29 2; clear b29 hc9 hH9 hb9)))
    have hb3 := three_put (u0 := .slice A9 l.length c9) (u1 := .int .i64 i) (u2 := .int .i64 p) BK29.out
    refine bodyPost_ret (results_ct rfl _ _ (w.heap.size + 1) 24 _ (0, 0) _ rfl hb3 Try.underlying24 rfl (by kernel_rfl)) rfl ?_
    exact ⟨_, rfl, Kd.V_mono (Kd.V_step (HH9.out.V (B := w.heap.size) (by have := HS.out.1; omega) HC9.out) (fun k hk _ => three_heap (by have := HW4.out; omega))) (fun k hk => by have := HW4.out; omega), three_below (below_step (below_step HB0.out HB4.out) HB9.out) (by omega)⟩
  | true =>
    rw [hm] at HMAY
    obtain rfl := hn hm
    rw [if_pos rfl]
    clear hm hn
    go_enter Try.func34, Try.ntmps34
    go_wp2_with (first | (go_at_call 27; (refine (HMAY.out).mono ?_; rintro e_ w4 ⟨rfl, hb⟩; have HB4 := Aside0.mk hb; have b14 := blk_below BK1.out hb; have BK24 := Aside0.mk (blk_below BK2.out hb); have HC4 := Aside0.mk (Kd.C_below HC0.out hb); have HW4 := Aside0.mk (show w.heap.size + 2 ≤ w4.heap.size by have h1 := hb.size; have h2 := HWS.out; omega); clear k10 k11 k12 HMAY hb; have k10 := (blk_cell b14 0).trans rfl; have k11 := (blk_cell b14 1).trans rfl; have k12 := (blk_cell b14 2).trans rfl; clear b14)) | (go_at_call 33; (refine (drive_own.says A0 c0 l _ p _ HC4.out HC.out HS.out).mono ?_; rintro e_ w9 ⟨A9, c9, rfl, hc9, hH9, hb9⟩; have HC9 := Aside0.mk hc9; have HH9 := Aside0.mk hH9; have HB9 := Aside0.mk hb9; have b29 := blk_below BK24.out hb9; have BK29 := Aside0.mk b29; have m20 := (blk_cell b29 0).trans rfl; have m21 := (blk_cell b29 1).trans rfl; have m22 := (blk_cell b29 2).trans rfl; have g20 := blk_frozen b29 0; have g21 := blk_frozen b29 1; have g22 := blk_frozen b29 2; clear b29 hc9 hH9 hb9)))
    have hb3 := three_put (u0 := .slice A9 l.length c9) (u1 := .int .i64 (-1)) (u2 := .int .i64 p) BK29.out
    refine bodyPost_ret (results_ct rfl _ _ (w.heap.size + 1) 24 _ (0, 0) _ rfl hb3 Try.underlying24 rfl (by kernel_rfl)) rfl ?_
    exact ⟨_, rfl, Kd.V_mono (Kd.V_step (HH9.out.V (B := w.heap.size) (by have := HS.out.1; omega) HC9.out) (fun k hk _ => three_heap (by have := HW4.out; omega))) (fun k hk => by have := HW4.out; omega), three_below (below_step (below_step HB0.out HB4.out) HB9.out) (by omega)⟩

def cutT (a : Int) (l : List (List Int)) (b : Bool) (n : Int) : Int × List (List Int) × Bool × Int :=
  if mayT a l = true then (if n < 0 ∨ (l.length : Int) < n then (a, l, b, 9) else (a, l.take n.toNat, false, 0)) else (a, l, b, 1)
def tape_Cut.f (a0_0 : Int) (l0_1 : List (List Int)) (a0_2 : Bool) (a1 : Int) : Option (Int × List (List Int) × Bool × Int) :=
  if sized l0_1 then some (cutT a0_0 l0_1 a0_2 a1) else none
set_option maxHeartbeats 8000000 in
set_option maxRecDepth 100000 in
theorem tape_Cut.calls (a0_0 : Int) (A0_1 : Option Addr) (c0_1 : Nat) (l0_1 : List (List Int)) (a0_2 : Bool) (a1 : Int) (r1 : Int) (r2 : List (List Int)) (r3 : Bool) (r4 : Int) (w : World) (hr0_1 : Kd.C (Kd.slice 5 (Kd.int .u8)) w A0_1 l0_1.length l0_1) (hc0_1 : l0_1.length ≤ c0_1)
    (h : tape_Cut.f a0_0 l0_1 a0_2 a1 = some (r1, r2, r3, r4)) :
    Calls Try.prog 40 #[.agg #[.int .i64 a0_0, .slice A0_1 l0_1.length c0_1, .bool a0_2], .int .i64 a1] w fun e w' => ∃ v1_ : Value, e = .returned (.tuple #[.agg #[.int .i64 r1, v1_, .bool r3], .int .i64 r4]) ∧ Kd.V (Kd.slice 5 (Kd.int .u8)) 25 w' w.heap.size (fun k_ => (w.heap.size ≤ k_)) v1_ r2 ∧ Below w.heap.size w w' := by
  unfold tape_Cut.f at h
  by_cases hs : sized l0_1
  case neg => rw [if_neg hs] at h; cases h
  rw [if_pos hs] at h
  have hlen : l0_1.length ≤ 1000 := hs.1
  have hB0 := below_alloc (below_alloc (Below.refl w.heap.size w) (.cells #[.int .i64 a0_0, .slice A0_1 l0_1.length c0_1, .bool a0_2] 41)) (.cells #[.int .i64 0, .slice none 0 0, .bool false] 41)
  have bk1 := blk_alloc (blk_new w (.cells #[.int .i64 a0_0, .slice A0_1 l0_1.length c0_1, .bool a0_2] 41)) (.cells #[.int .i64 0, .slice none 0 0, .bool false] 41)
  have bk2 := blk_new (w.alloc (.cells #[.int .i64 a0_0, .slice A0_1 l0_1.length c0_1, .bool a0_2] 41)) (.cells #[.int .i64 0, .slice none 0 0, .bool false] 41)
  rw [show (w.alloc (.cells #[.int .i64 a0_0, .slice A0_1 l0_1.length c0_1, .bool a0_2] 41)).heap.size = w.heap.size + 1 by simp] at bk2
  have hC0 := Kd.C_alloc (Kd.C_alloc hr0_1 (.cells #[.int .i64 a0_0, .slice A0_1 l0_1.length c0_1, .bool a0_2] 41)) (.cells #[.int .i64 0, .slice none 0 0, .bool false] 41)
  have hws : ((w.alloc (.cells #[.int .i64 a0_0, .slice A0_1 l0_1.length c0_1, .bool a0_2] 41)).alloc (.cells #[.int .i64 0, .slice none 0 0, .bool false] 41)).heap.size = w.heap.size + 2 := by simp
  have k10 := blk_cell bk1 0
  have k11 := blk_cell bk1 1
  have k12 := blk_cell bk1 2
  have HWS := Aside0.mk hws
  have HB0 := Aside0.mk hB0
  have HC0 := Aside0.mk hC0
  have HR := Aside0.mk hr0_1
  have HC01 := Aside0.mk hc0_1
  have HOWN := Aside0.mk (tape_own.tells a0_0 l0_1 a0_2 hs)
  have HLEN := Aside0.mk hlen
  have hmay : tape_May.f a0_0 l0_1 a0_2 = some (mayT a0_0 l0_1) := rfl
  have BK1 := Aside0.mk bk1
  have BK2 := Aside0.mk bk2
  clear hws hB0 hC0 hr0_1 hc0_1 hs hlen bk1 bk2
  unfold cutT at h
  cases hm : mayT a0_0 l0_1 with
  | false =>
    rw [hm] at hmay
    have HMAY := Aside0.mk hmay
    rw [if_neg (by rw [hm]; decide)] at h
    simp only [Option.some.injEq, Prod.mk.injEq] at h
    obtain ⟨rfl, rfl, rfl, rfl⟩ := h
    clear hmay hm
    go_enter Try.func40, Try.ntmps40
    go_wp2_with (first | (go_at_call 60; refine (tape_own.calls a0_0 A0_1 c0_1 l0_1 a0_2 _ _ _ _ HC0.out HC01.out HOWN.out).mono ?_; rintro e w3 ⟨v, rfl, hS, hb⟩; obtain ⟨A3, c3, he⟩ := Kd.S_slice hS; subst he; rw [HWS.out] at hS; have HS3 := Aside0.mk hS; have HB3 := Aside0.mk (below_step HB0.out hb); have HW3 := Aside0.mk (show w.heap.size + 2 ≤ w3.heap.size by have h1 := hb.size; have h2 := HWS.out; omega); have BK13 := Aside0.mk (blk_below BK1.out hb); have BK23 := Aside0.mk (blk_below BK2.out hb); clear hS hb k10 k11 k12) | ((with_reducible refine gate_dst (N := 6) rfl ?_); refine box_event ?hg (N := 6) ?hd (cs := #[.int .i64 0, .slice none 0 0, .bool false]) (t := 41) ?hr ?_; (case hd => rfl); (case hg => rfl); (case hr => first | (go_simp; done) | (go_simp; rfl)); intro g6 hg w6 hbox hb; have HG6 := Aside0.mk hg; have HB36 := Aside0.mk hb; have HB6 := Aside0.mk (below_step HB3.out hb); have hn1 : g6 ≠ w.heap.size := (by have := HW3.out; omega); have hn2 : g6 ≠ w.heap.size + 1 := (by have := HW3.out; omega); have hn3 := Ne.symm hn1; have hn4 := Ne.symm hn2; have hb1 := blk_below BK13.out hb; have hb2 := blk_below BK23.out hb; have BK16 := Aside0.mk hb1; have BK26 := Aside0.mk hb2; have BK66 := Aside0.mk hbox; have k60 : w6.cell? ⟨g6, 0, none⟩ = some (.int .i64 0) := (blk_cell hbox 0).trans rfl; have k61 : w6.cell? ⟨g6, 1, none⟩ = some (.slice none 0 0) := (blk_cell hbox 1).trans rfl; have k62 : w6.cell? ⟨g6, 2, none⟩ = some (.bool false) := (blk_cell hbox 2).trans rfl; have k10 : w6.cell? ⟨w.heap.size, 0, none⟩ = some (.int .i64 a0_0) := (blk_cell hb1 0).trans rfl; have k11 : w6.cell? ⟨w.heap.size, 1, none⟩ = some (.slice A0_1 l0_1.length c0_1) := (blk_cell hb1 1).trans rfl; have k12 : w6.cell? ⟨w.heap.size, 2, none⟩ = some (.bool a0_2) := (blk_cell hb1 2).trans rfl; have f60 := blk_frozen hbox 0; have f61 := blk_frozen hbox 1; have f62 := blk_frozen hbox 2; clear hbox hb hb1 hb2 hg) | (go_at_call 52; refine (tape_May.calls a0_0 A0_1 c0_1 l0_1 a0_2 false _ (Kd.C_below HR.out (three_below HB6.out (by have := HG6.out; have := HW3.out; omega))) HC01.out HMAY.out).mono ?_; rintro e w7 ⟨rfl, hb⟩; have b17 := blk_below ((three_heap hn3).trans BK16.out) hb; have b27 := blk_below ((three_heap hn4).trans BK26.out) hb; have b67 := blk_below (three_put BK66.out) hb; have HB7 := Aside0.mk (below_step (three_below HB6.out (by have := HG6.out; have := HW3.out; omega)) hb); have HS7 := Aside0.mk (S_past (base' := w.heap.size + 2) HS3.out (Nat.le_refl _) (fun k hk hlt => ((hb.block k (by have := HB36.out.size; simp [World.setCell]; omega)).trans (three_heap (by have := HG6.out; omega))).trans (HB36.out.block k hlt))); have BK27 := Aside0.mk b27; have BK67 := Aside0.mk b67; have k71 : w7.cell? ⟨w.heap.size, 1, none⟩ = some (.slice A0_1 l0_1.length c0_1) := (blk_cell b17 1).trans rfl; have k760 : w7.cell? ⟨g6, 0, none⟩ = some (.int .i64 a0_0) := (blk_cell b67 0).trans rfl; have k761 : w7.cell? ⟨g6, 1, none⟩ = some (.slice A3 l0_1.length c3) := (blk_cell b67 1).trans rfl; have k762 : w7.cell? ⟨g6, 2, none⟩ = some (.bool a0_2) := (blk_cell b67 2).trans rfl; have f761 := blk_frozen b67 1; have f762 := blk_frozen b67 2; have k720 : w7.cell? ⟨w.heap.size + 1, 0, none⟩ = some (.int .i64 0) := (blk_cell b27 0).trans rfl; have k721 : w7.cell? ⟨w.heap.size + 1, 1, none⟩ = some (.slice none 0 0) := (blk_cell b27 1).trans rfl; have k722 : w7.cell? ⟨w.heap.size + 1, 2, none⟩ = some (.bool false) := (blk_cell b27 2).trans rfl; have f720 := blk_frozen b27 0; have f721 := blk_frozen b27 1; have f722 := blk_frozen b27 2; clear k60 k61 k62 k10 k11 k12 f60 f61 f62 b17 b27 b67 hb))
    refine bodyPost_ret (results_ct rfl _ _ (w.heap.size + 1) 41 _ (0, 0) _ rfl (three_put BK27.out) Try.underlying41 rfl (by kernel_rfl)) rfl ?_
    exact ⟨_, rfl, Kd.V_mono (V_of_S (S_past (base' := w.heap.size) HS7.out (by omega) (fun k hk hlt => three_heap (by omega)))) (fun k hk => by omega), three_below HB7.out (by omega)⟩
  | true =>
    rw [hm] at hmay
    have HMAY := Aside0.mk hmay
    rw [if_pos hm] at h
    by_cases c1 : a1 < 0
    · rw [if_pos (.inl c1)] at h
      simp only [Option.some.injEq, Prod.mk.injEq] at h
      obtain ⟨rfl, rfl, rfl, rfl⟩ := h
      have d1 : decide (a1 < 0) = true := decide_eq_true c1
      clear hmay hm c1
      go_enter Try.func40, Try.ntmps40
      go_wp2_with (first | (go_at_call 60; refine (tape_own.calls a0_0 A0_1 c0_1 l0_1 a0_2 _ _ _ _ HC0.out HC01.out HOWN.out).mono ?_; rintro e w3 ⟨v, rfl, hS, hb⟩; obtain ⟨A3, c3, he⟩ := Kd.S_slice hS; subst he; rw [HWS.out] at hS; have HS3 := Aside0.mk hS; have HB3 := Aside0.mk (below_step HB0.out hb); have HW3 := Aside0.mk (show w.heap.size + 2 ≤ w3.heap.size by have h1 := hb.size; have h2 := HWS.out; omega); have BK13 := Aside0.mk (blk_below BK1.out hb); have BK23 := Aside0.mk (blk_below BK2.out hb); clear hS hb k10 k11 k12) | ((with_reducible refine gate_dst (N := 6) rfl ?_); refine box_event ?hg (N := 6) ?hd (cs := #[.int .i64 0, .slice none 0 0, .bool false]) (t := 41) ?hr ?_; (case hd => rfl); (case hg => rfl); (case hr => first | (go_simp; done) | (go_simp; rfl)); intro g6 hg w6 hbox hb; have HG6 := Aside0.mk hg; have HB36 := Aside0.mk hb; have HB6 := Aside0.mk (below_step HB3.out hb); have hn1 : g6 ≠ w.heap.size := (by have := HW3.out; omega); have hn2 : g6 ≠ w.heap.size + 1 := (by have := HW3.out; omega); have hn3 := Ne.symm hn1; have hn4 := Ne.symm hn2; have hb1 := blk_below BK13.out hb; have hb2 := blk_below BK23.out hb; have BK16 := Aside0.mk hb1; have BK26 := Aside0.mk hb2; have BK66 := Aside0.mk hbox; have k60 : w6.cell? ⟨g6, 0, none⟩ = some (.int .i64 0) := (blk_cell hbox 0).trans rfl; have k61 : w6.cell? ⟨g6, 1, none⟩ = some (.slice none 0 0) := (blk_cell hbox 1).trans rfl; have k62 : w6.cell? ⟨g6, 2, none⟩ = some (.bool false) := (blk_cell hbox 2).trans rfl; have k10 : w6.cell? ⟨w.heap.size, 0, none⟩ = some (.int .i64 a0_0) := (blk_cell hb1 0).trans rfl; have k11 : w6.cell? ⟨w.heap.size, 1, none⟩ = some (.slice A0_1 l0_1.length c0_1) := (blk_cell hb1 1).trans rfl; have k12 : w6.cell? ⟨w.heap.size, 2, none⟩ = some (.bool a0_2) := (blk_cell hb1 2).trans rfl; have f60 := blk_frozen hbox 0; have f61 := blk_frozen hbox 1; have f62 := blk_frozen hbox 2; clear hbox hb hb1 hb2 hg) | (go_at_call 52; refine (tape_May.calls a0_0 A0_1 c0_1 l0_1 a0_2 true _ (Kd.C_below HR.out (three_below HB6.out (by have := HG6.out; have := HW3.out; omega))) HC01.out HMAY.out).mono ?_; rintro e w7 ⟨rfl, hb⟩; have b17 := blk_below ((three_heap hn3).trans BK16.out) hb; have b27 := blk_below ((three_heap hn4).trans BK26.out) hb; have b67 := blk_below (three_put BK66.out) hb; have HB7 := Aside0.mk (below_step (three_below HB6.out (by have := HG6.out; have := HW3.out; omega)) hb); have HS7 := Aside0.mk (S_past (base' := w.heap.size + 2) HS3.out (Nat.le_refl _) (fun k hk hlt => ((hb.block k (by have := HB36.out.size; simp [World.setCell]; omega)).trans (three_heap (by have := HG6.out; omega))).trans (HB36.out.block k hlt))); have BK27 := Aside0.mk b27; have BK67 := Aside0.mk b67; have k71 : w7.cell? ⟨w.heap.size, 1, none⟩ = some (.slice A0_1 l0_1.length c0_1) := (blk_cell b17 1).trans rfl; have k760 : w7.cell? ⟨g6, 0, none⟩ = some (.int .i64 a0_0) := (blk_cell b67 0).trans rfl; have k761 : w7.cell? ⟨g6, 1, none⟩ = some (.slice A3 l0_1.length c3) := (blk_cell b67 1).trans rfl; have k762 : w7.cell? ⟨g6, 2, none⟩ = some (.bool a0_2) := (blk_cell b67 2).trans rfl; have f761 := blk_frozen b67 1; have f762 := blk_frozen b67 2; have k720 : w7.cell? ⟨w.heap.size + 1, 0, none⟩ = some (.int .i64 0) := (blk_cell b27 0).trans rfl; have k721 : w7.cell? ⟨w.heap.size + 1, 1, none⟩ = some (.slice none 0 0) := (blk_cell b27 1).trans rfl; have k722 : w7.cell? ⟨w.heap.size + 1, 2, none⟩ = some (.bool false) := (blk_cell b27 2).trans rfl; have f720 := blk_frozen b27 0; have f721 := blk_frozen b27 1; have f722 := blk_frozen b27 2; clear k60 k61 k62 k10 k11 k12 f60 f61 f62 b17 b27 b67 hb))
      refine bodyPost_ret (results_ct rfl _ _ (w.heap.size + 1) 41 _ (0, 0) _ rfl (three_put BK27.out) Try.underlying41 rfl (by kernel_rfl)) rfl ?_
      exact ⟨_, rfl, Kd.V_mono (V_of_S (S_past (base' := w.heap.size) HS7.out (by omega) (fun k hk hlt => three_heap (by omega)))) (fun k hk => by omega), three_below HB7.out (by omega)⟩
    · have d1 : decide (a1 < 0) = false := decide_eq_false c1
      by_cases c2 : (l0_1.length : Int) < a1
      · rw [if_pos (.inr c2)] at h
        simp only [Option.some.injEq, Prod.mk.injEq] at h
        obtain ⟨rfl, rfl, rfl, rfl⟩ := h
        have d2 : decide ((l0_1.length : Int) < a1) = true := decide_eq_true c2
        clear hmay hm c1 c2
        go_enter Try.func40, Try.ntmps40
        go_wp2_with (first | (go_at_call 60; refine (tape_own.calls a0_0 A0_1 c0_1 l0_1 a0_2 _ _ _ _ HC0.out HC01.out HOWN.out).mono ?_; rintro e w3 ⟨v, rfl, hS, hb⟩; obtain ⟨A3, c3, he⟩ := Kd.S_slice hS; subst he; rw [HWS.out] at hS; have HS3 := Aside0.mk hS; have HB3 := Aside0.mk (below_step HB0.out hb); have HW3 := Aside0.mk (show w.heap.size + 2 ≤ w3.heap.size by have h1 := hb.size; have h2 := HWS.out; omega); have BK13 := Aside0.mk (blk_below BK1.out hb); have BK23 := Aside0.mk (blk_below BK2.out hb); clear hS hb k10 k11 k12) | ((with_reducible refine gate_dst (N := 6) rfl ?_); refine box_event ?hg (N := 6) ?hd (cs := #[.int .i64 0, .slice none 0 0, .bool false]) (t := 41) ?hr ?_; (case hd => rfl); (case hg => rfl); (case hr => first | (go_simp; done) | (go_simp; rfl)); intro g6 hg w6 hbox hb; have HG6 := Aside0.mk hg; have HB36 := Aside0.mk hb; have HB6 := Aside0.mk (below_step HB3.out hb); have hn1 : g6 ≠ w.heap.size := (by have := HW3.out; omega); have hn2 : g6 ≠ w.heap.size + 1 := (by have := HW3.out; omega); have hn3 := Ne.symm hn1; have hn4 := Ne.symm hn2; have hb1 := blk_below BK13.out hb; have hb2 := blk_below BK23.out hb; have BK16 := Aside0.mk hb1; have BK26 := Aside0.mk hb2; have BK66 := Aside0.mk hbox; have k60 : w6.cell? ⟨g6, 0, none⟩ = some (.int .i64 0) := (blk_cell hbox 0).trans rfl; have k61 : w6.cell? ⟨g6, 1, none⟩ = some (.slice none 0 0) := (blk_cell hbox 1).trans rfl; have k62 : w6.cell? ⟨g6, 2, none⟩ = some (.bool false) := (blk_cell hbox 2).trans rfl; have k10 : w6.cell? ⟨w.heap.size, 0, none⟩ = some (.int .i64 a0_0) := (blk_cell hb1 0).trans rfl; have k11 : w6.cell? ⟨w.heap.size, 1, none⟩ = some (.slice A0_1 l0_1.length c0_1) := (blk_cell hb1 1).trans rfl; have k12 : w6.cell? ⟨w.heap.size, 2, none⟩ = some (.bool a0_2) := (blk_cell hb1 2).trans rfl; have f60 := blk_frozen hbox 0; have f61 := blk_frozen hbox 1; have f62 := blk_frozen hbox 2; clear hbox hb hb1 hb2 hg) | (go_at_call 52; refine (tape_May.calls a0_0 A0_1 c0_1 l0_1 a0_2 true _ (Kd.C_below HR.out (three_below HB6.out (by have := HG6.out; have := HW3.out; omega))) HC01.out HMAY.out).mono ?_; rintro e w7 ⟨rfl, hb⟩; have b17 := blk_below ((three_heap hn3).trans BK16.out) hb; have b27 := blk_below ((three_heap hn4).trans BK26.out) hb; have b67 := blk_below (three_put BK66.out) hb; have HB7 := Aside0.mk (below_step (three_below HB6.out (by have := HG6.out; have := HW3.out; omega)) hb); have HS7 := Aside0.mk (S_past (base' := w.heap.size + 2) HS3.out (Nat.le_refl _) (fun k hk hlt => ((hb.block k (by have := HB36.out.size; simp [World.setCell]; omega)).trans (three_heap (by have := HG6.out; omega))).trans (HB36.out.block k hlt))); have BK27 := Aside0.mk b27; have BK67 := Aside0.mk b67; have k71 : w7.cell? ⟨w.heap.size, 1, none⟩ = some (.slice A0_1 l0_1.length c0_1) := (blk_cell b17 1).trans rfl; have k760 : w7.cell? ⟨g6, 0, none⟩ = some (.int .i64 a0_0) := (blk_cell b67 0).trans rfl; have k761 : w7.cell? ⟨g6, 1, none⟩ = some (.slice A3 l0_1.length c3) := (blk_cell b67 1).trans rfl; have k762 : w7.cell? ⟨g6, 2, none⟩ = some (.bool a0_2) := (blk_cell b67 2).trans rfl; have f761 := blk_frozen b67 1; have f762 := blk_frozen b67 2; have k720 : w7.cell? ⟨w.heap.size + 1, 0, none⟩ = some (.int .i64 0) := (blk_cell b27 0).trans rfl; have k721 : w7.cell? ⟨w.heap.size + 1, 1, none⟩ = some (.slice none 0 0) := (blk_cell b27 1).trans rfl; have k722 : w7.cell? ⟨w.heap.size + 1, 2, none⟩ = some (.bool false) := (blk_cell b27 2).trans rfl; have f720 := blk_frozen b27 0; have f721 := blk_frozen b27 1; have f722 := blk_frozen b27 2; clear k60 k61 k62 k10 k11 k12 f60 f61 f62 b17 b27 b67 hb))
        refine bodyPost_ret (results_ct rfl _ _ (w.heap.size + 1) 41 _ (0, 0) _ rfl (three_put BK27.out) Try.underlying41 rfl (by kernel_rfl)) rfl ?_
        exact ⟨_, rfl, Kd.V_mono (V_of_S (S_past (base' := w.heap.size) HS7.out (by omega) (fun k hk hlt => three_heap (by omega)))) (fun k hk => by omega), three_below HB7.out (by omega)⟩
      · rw [if_neg (fun h => h.elim c1 c2)] at h
        simp only [Option.some.injEq, Prod.mk.injEq] at h
        obtain ⟨rfl, rfl, rfl, rfl⟩ := h
        have d2 : decide ((l0_1.length : Int) < a1) = false := decide_eq_false c2
        have p0 : 0 ≤ a1 := by omega
        have p1 : a1 ≤ (l0_1.length : Int) := by omega
        have HP0 := Aside0.mk p0
        have HP1 := Aside0.mk p1
        clear hmay hm c1 c2
        go_enter Try.func40, Try.ntmps40
        go_wp2_with (first | (go_at_call 60; refine (tape_own.calls a0_0 A0_1 c0_1 l0_1 a0_2 _ _ _ _ HC0.out HC01.out HOWN.out).mono ?_; rintro e w3 ⟨v, rfl, hS, hb⟩; obtain ⟨A3, c3, he⟩ := Kd.S_slice hS; subst he; rw [HWS.out] at hS; have p2 : a1 ≤ (c3 : Int) := (by have := (Kd.R_reads' (Kd.S_R hS)).2.1; omega); have HP2 := Aside0.mk p2; have HS3 := Aside0.mk hS; have HB3 := Aside0.mk (below_step HB0.out hb); have HW3 := Aside0.mk (show w.heap.size + 2 ≤ w3.heap.size by have h1 := hb.size; have h2 := HWS.out; omega); have BK13 := Aside0.mk (blk_below BK1.out hb); have BK23 := Aside0.mk (blk_below BK2.out hb); clear hS hb k10 k11 k12) | ((with_reducible refine gate_dst (N := 6) rfl ?_); refine box_event ?hg (N := 6) ?hd (cs := #[.int .i64 0, .slice none 0 0, .bool false]) (t := 41) ?hr ?_; (case hd => rfl); (case hg => rfl); (case hr => first | (go_simp; done) | (go_simp; rfl)); intro g6 hg w6 hbox hb; have HG6 := Aside0.mk hg; have HB36 := Aside0.mk hb; have HB6 := Aside0.mk (below_step HB3.out hb); have hn1 : g6 ≠ w.heap.size := (by have := HW3.out; omega); have hn2 : g6 ≠ w.heap.size + 1 := (by have := HW3.out; omega); have hn3 := Ne.symm hn1; have hn4 := Ne.symm hn2; have hb1 := blk_below BK13.out hb; have hb2 := blk_below BK23.out hb; have BK16 := Aside0.mk hb1; have BK26 := Aside0.mk hb2; have BK66 := Aside0.mk hbox; have k60 : w6.cell? ⟨g6, 0, none⟩ = some (.int .i64 0) := (blk_cell hbox 0).trans rfl; have k61 : w6.cell? ⟨g6, 1, none⟩ = some (.slice none 0 0) := (blk_cell hbox 1).trans rfl; have k62 : w6.cell? ⟨g6, 2, none⟩ = some (.bool false) := (blk_cell hbox 2).trans rfl; have k10 : w6.cell? ⟨w.heap.size, 0, none⟩ = some (.int .i64 a0_0) := (blk_cell hb1 0).trans rfl; have k11 : w6.cell? ⟨w.heap.size, 1, none⟩ = some (.slice A0_1 l0_1.length c0_1) := (blk_cell hb1 1).trans rfl; have k12 : w6.cell? ⟨w.heap.size, 2, none⟩ = some (.bool a0_2) := (blk_cell hb1 2).trans rfl; have f60 := blk_frozen hbox 0; have f61 := blk_frozen hbox 1; have f62 := blk_frozen hbox 2; clear hbox hb hb1 hb2 hg) | (go_at_call 52; refine (tape_May.calls a0_0 A0_1 c0_1 l0_1 a0_2 true _ (Kd.C_below HR.out (three_below HB6.out (by have := HG6.out; have := HW3.out; omega))) HC01.out HMAY.out).mono ?_; rintro e w7 ⟨rfl, hb⟩; have b17 := blk_below ((three_heap hn3).trans BK16.out) hb; have b27 := blk_below ((three_heap hn4).trans BK26.out) hb; have b67 := blk_below (three_put BK66.out) hb; have HB7 := Aside0.mk (below_step (three_below HB6.out (by have := HG6.out; have := HW3.out; omega)) hb); have HS7 := Aside0.mk (S_past (base' := w.heap.size + 2) HS3.out (Nat.le_refl _) (fun k hk hlt => ((hb.block k (by have := HB36.out.size; simp [World.setCell]; omega)).trans (three_heap (by have := HG6.out; omega))).trans (HB36.out.block k hlt))); have BK27 := Aside0.mk b27; have BK67 := Aside0.mk b67; have k71 : w7.cell? ⟨w.heap.size, 1, none⟩ = some (.slice A0_1 l0_1.length c0_1) := (blk_cell b17 1).trans rfl; have k760 : w7.cell? ⟨g6, 0, none⟩ = some (.int .i64 a0_0) := (blk_cell b67 0).trans rfl; have k761 : w7.cell? ⟨g6, 1, none⟩ = some (.slice A3 l0_1.length c3) := (blk_cell b67 1).trans rfl; have k762 : w7.cell? ⟨g6, 2, none⟩ = some (.bool a0_2) := (blk_cell b67 2).trans rfl; have f761 := blk_frozen b67 1; have f762 := blk_frozen b67 2; have k720 : w7.cell? ⟨w.heap.size + 1, 0, none⟩ = some (.int .i64 0) := (blk_cell b27 0).trans rfl; have k721 : w7.cell? ⟨w.heap.size + 1, 1, none⟩ = some (.slice none 0 0) := (blk_cell b27 1).trans rfl; have k722 : w7.cell? ⟨w.heap.size + 1, 2, none⟩ = some (.bool false) := (blk_cell b27 2).trans rfl; have f720 := blk_frozen b27 0; have f721 := blk_frozen b27 1; have f722 := blk_frozen b27 2; clear k60 k61 k62 k10 k11 k12 f60 f61 f62 b17 b27 b67 hb))
        have hb2 := blk_far (blk_far BK27.out hn4 (p := ⟨g6, 1, none⟩) (.slice A3 a1.toNat a1.toNat)) hn4 (p := ⟨g6, 2, none⟩) (.bool false)
        refine bodyPost_ret (results_ct rfl _ _ (w.heap.size + 1) 41 _ (0, 0) _ rfl (three_put hb2) Try.underlying41 rfl (by kernel_rfl)) rfl ?_
        have hg6 : w.heap.size ≤ g6 := by have := HG6.out; have := HW3.out; omega
        refine ⟨_, rfl, ?_, three_below (below_set (below_set HB7.out hg6) hg6) (by omega)⟩
        have s1 := Kd.S_set HS7.out BK67.out (by decide) 1 (.slice A3 a1.toNat a1.toNat)
        have s2 := Kd.S_set s1 (blk_set BK67.out 1 (.slice A3 a1.toNat a1.toNat)) (by decide) 2 (.bool false)
        have hv := V_of_S (S_past (base' := w.heap.size) (B := (((((w7.setCell ⟨g6, 1, none⟩ (.slice A3 a1.toNat a1.toNat)).setCell ⟨g6, 2, none⟩ (.bool false)).setCell ⟨w.heap.size + 1, 0, none⟩ (.int .i64 a0_0)).setCell ⟨w.heap.size + 1, 1, none⟩ (.slice A3 a1.toNat a1.toNat)).setCell ⟨w.heap.size + 1, 2, none⟩ (.bool false))) s2 (by omega) (fun k hk hlt => three_heap (by omega)))
        have hl : (l0_1.take a1.toNat).length = a1.toNat := by rw [List.length_take]; have := HP0.out; have := HP1.out; omega
        have hv2 := Kd.V_mk (c := a1.toNat) (e := 25) (base := w.heap.size) (by omega) (Kd.F_take (Kd.V_F hv) (by have := HP0.out; have := HP1.out; omega : a1.toNat ≤ l0_1.length))
        rw [hl] at hv2
        exact hv2

theorem bA {w : World} {g : Nat} {o : Obj} (h : w.heap[g]? = some o) (o' : Obj) : (w.alloc o').heap[g]? = some o := blk_alloc h o'
theorem bW {w : World} {g : Nat} {o : Obj} (h : w.heap[g]? = some o) : w.drew.heap[g]? = some o := blk_drew h
theorem bS {w W : World} {g j : Nat} {v : Value} (h : Below w.heap.size w W) (hg : w.heap.size ≤ g) : Below w.heap.size w (W.setCell ⟨g, j, none⟩ v) := below_set h hg
theorem bP {B : Nat} {w W : World} (h : Below B w W) (n : Nat) : Below B w (W.drewN n) := pw_below_drewN h n
theorem bL {w W : World} (h : Below w.heap.size w W) (o : Obj) : Below w.heap.size w (W.alloc o) := below_alloc h o
theorem bD {B : Nat} {w W : World} (h : Below B w W) : Below B w W.drew := below_drew1 h
theorem bK {w w1 : World} {g : Nat} {o : Obj} (h : w.heap[g]? = some o) (hb : Below w.heap.size w w1) : w1.heap[g]? = some o := blk_below h hb
theorem zA {p : Prop} (h : p) : Aside0 p := Aside0.mk h
theorem b6 {w : World} {b : Nat} {x y z : Value} {t : TypeId} (h : w.heap[b]? = some (.cells #[x, y, z] t (0, 0))) : w.cell? ⟨b, 0, none⟩ = some x ∧ w.cell? ⟨b, 1, none⟩ = some y ∧ w.cell? ⟨b, 2, none⟩ = some z ∧ w.frozen? ⟨b, 0, none⟩ = false ∧ w.frozen? ⟨b, 1, none⟩ = false ∧ w.frozen? ⟨b, 2, none⟩ = false :=
  ⟨(blk_cell h 0).trans rfl, (blk_cell h 1).trans rfl, (blk_cell h 2).trans rfl, blk_frozen h 0, blk_frozen h 1, blk_frozen h 2⟩
theorem gW {w W : World} {g : Nat} (h : Below w.heap.size w W) (hg : g = W.heap.size) : w.heap.size ≤ g := by rw [hg]; exact below_size h
theorem gL {w : World} {g k : Nat} {o : Obj} (h : w.heap[k]? = some o) (hg : g = w.heap.size) : k ≠ g := by rw [hg]; exact Nat.ne_of_lt (blk_lt h)
theorem gG {w : World} {g k : Nat} {o : Obj} (h : w.heap[k]? = some o) (hg : g = w.heap.size) : g ≠ k := by rw [hg]; exact Nat.ne_of_gt (blk_lt h)
def bs (n m : Nat) : Array Bool := ((List.range n).map fun i => m.testBit i).toArray
theorem sA {α : Type} (l : List α) (i : Nat) (a : α) : l.toArray.setIfInBounds i a = (l.set i a).toArray := List.setIfInBounds_toArray l i a
theorem sB {α : Type} (a b : α) (l : List α) : (a :: l).set 0 b = b :: l := List.set_cons_zero
theorem sC {α : Type} (a b : α) (l : List α) (n : Nat) : (a :: l).set (n + 1) b = a :: l.set n b := List.set_cons_succ

end Go.Proofs.Ytpbfeegfkiegeaa.M
