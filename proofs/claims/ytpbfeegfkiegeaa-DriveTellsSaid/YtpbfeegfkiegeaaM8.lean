/- Part of a claim: what some functions of the program compute, each with its contract; no condition of its own. Written by a program of this workplace (gen.py, over the print of the kit) and by hand. -/
import Derived.Test.YtpbfeegfkiegeaaM0
import Derived.Test.YtpbfeegfkiegeaaM1
import Derived.Test.YtpbfeegfkiegeaaM2
import Derived.Test.YtpbfeegfkiegeaaM3
import Derived.Test.YtpbfeegfkiegeaaM7
namespace Go.Proofs.Ytpbfeegfkiegeaa.M
open Go.RowKit Go.Proofs.YtpbfeegfkiegeaaW.PrintWords Go.Proofs.YtpbfeegfkiegeaaW.PrintLast Go.Proofs.YtpbfeegfkiegeaaW.PrintMore
attribute [local go_sem] max2_int min2_int max_two min_two max_three min_three max_four min_four   -- for this text's walks alone
set_option linter.unusedVariables false
set_option linter.unusedSimpArgs false

def ownable (l : List S41) : Prop := l.length ≤ 1000 ∧ (l.all fun x => decide (x.f1.length ≤ 1000) && x.f1.all fun b => decide (b.length ≤ 1000000)) = true
instance (l : List S41) : Decidable (ownable l) := by unfold ownable; infer_instance
def drive_own.f (l0_0 : List S41) (a0_1 : Int) (a0_2 : Int) : Option (List S41 × Int × Int) := if ownable l0_0 then some (l0_0, a0_1, a0_2) else none
theorem HalfS.slice2 {W : World} {old base : Nat} {v : Value} {i : Nat} {l : List (List Int)} (h : HalfS W old base v i l) : ∃ A c, v = .slice A l.length c ∧ l.length ≤ c := by
  obtain ⟨f, inner, hb, ho, hl, hx⟩ := h
  rcases ho.2 with ⟨rfl, h0⟩ | ⟨g, cap, cur, rfl, _, _, hcap, _⟩
  · exact ⟨none, 0, by rw [h0], by omega⟩
  · exact ⟨_, cap, rfl, hcap⟩
def OpenD (W : World) (old base lim g : Nat) (cur : Array Value) (i : Nat) (l : List S41) : Prop :=
  W.heap[g]? = some (.cells cur 41 (0, 0)) ∧ lim ≤ W.heap.size ∧ g < lim ∧ base ≤ g ∧ old ≤ base ∧
    ∀ j x, l[j]? = some x → (j < i → TapeIn W (fun k => (base ≤ k ∧ k ≠ g) ∧ k < lim) cur j x) ∧ (i < j → TapeIn W (fun k => k < old) cur j x)
theorem OpenD.of {W W1 : World} {old base g i : Nat} {cur : Array Value} {l : List S41} (hg : W.heap[g]? = some (.cells cur 41 (0, 0))) (hb : base ≤ g) (hob : old ≤ base)
    (hx : ∀ j x, l[j]? = some x → (j < i → TapeIn W (fun k => base ≤ k ∧ k ≠ g) cur j x) ∧ (i ≤ j → TapeIn W (fun k => k < old) cur j x)) (hB : Below W.heap.size W W1) (u : Value) :
    OpenD (W1.setCell ⟨g, i * 3 + 1, none⟩ u) old base W.heap.size g (cur.setIfInBounds (i * 3 + 1) u) i l := by
  have hgl := blk_lt hg
  refine ⟨blk_set (blk_below hg hB) _ _, by simpa [World.setCell] using hB.size, hgl, hb, hob, fun j x hj => ?_⟩
  have hcs : j ≠ i → ∀ q, q < 3 → (cur.setIfInBounds (i * 3 + 1) u)[j * 3 + q]? = cur[j * 3 + q]? := fun hne q hq => by
    rw [Array.getElem?_setIfInBounds_ne (by omega)]
  have hmv : ∀ k, k ≠ g → k < W.heap.size → (W1.setCell ⟨g, i * 3 + 1, none⟩ u).heap[k]? = W.heap[k]? := fun k hk hlt => (Below.heap_setCell W1 ⟨g, i * 3 + 1, none⟩ u k hk).trans (hB.block k hlt)
  exact ⟨fun h => ((((hx j x hj).1 h).bound).step (fun k hk hlt => hmv k hk.1.2 hlt)).cells (hcs (by omega)), fun h => (((hx j x hj).2 (by omega)).step (fun k hk hlt => hmv k (by omega) hlt)).cells (hcs (by omega))⟩
theorem OpenD.step {W W1 : World} {old base lim g i : Nat} {cur : Array Value} {l : List S41} (h : OpenD W old base lim g cur i l) (hB : Below W.heap.size W W1) (p : Addr) (hp : lim ≤ p.block) (u : Value) : OpenD (W1.setCell p u) old base lim g cur i l := by
  obtain ⟨hg, hl, hgl, hb, hob, hx⟩ := h
  have hmv : ∀ k, k < lim → k < W.heap.size → (W1.setCell p u).heap[k]? = W.heap[k]? := fun k hk hlt => (Below.heap_setCell W1 p u k (by omega)).trans (hB.block k hlt)
  exact ⟨(hmv g hgl (by omega)).trans hg, by have := hB.size; simp [World.setCell]; omega, hgl, hb, hob, fun j x hj => ⟨fun h => ((hx j x hj).1 h).step (fun k hk hlt => hmv k hk.2 hlt), fun h => ((hx j x hj).2 h).step (fun k hk hlt => hmv k (by omega) hlt)⟩⟩
theorem OpenD.close {W : World} {old base lim g i : Nat} {cur : Array Value} {l : List S41} {x : S41} {A c} (h : OpenD W old base lim g cur i l) (hx : l[i]? = some x) (h0 : cur[i * 3]? = some (.int .i64 x.f0)) (h1 : cur[i * 3 + 1]? = some (.slice A x.f1.length c)) (h2 : cur[i * 3 + 2]? = some (.bool x.f2)) (hc : x.f1.length ≤ c)
    (hF : Kd.F (Kd.slice 5 (Kd.int .u8)) W (fun k => lim ≤ k) A x.f1.length x.f1) : HalfD W old base (some ⟨g, 0, none⟩) (i + 1) l := by
  obtain ⟨hg, hl, hgl, hb, hob, hxs⟩ := h
  refine fun _ => ⟨g, cur, rfl, hg, hb, fun j y hj => ⟨fun h => ?_, fun h => (hxs j y hj).2 (by omega)⟩⟩
  by_cases e : j = i
  · subst e
    obtain rfl : x = y := by rw [hx] at hj; exact Option.some.inj hj
    exact ⟨A, c, h0, h1, h2, hc, Kd.F_mono hF (fun k hk => ⟨by omega, by omega⟩)⟩
  · exact ((hxs j y hj).1 (by omega)).mono (fun k hk => hk.1)
theorem HalfS.F {W : World} {old base : Nat} {A : Option Addr} {c : Nat} {l : List (List Int)} (h : HalfS W old base (.slice A l.length c) l.length l) : Kd.F (Kd.slice 5 (Kd.int .u8)) W (fun k => base ≤ k) A l.length l :=
  Kd.F_mono (Kd.S_F (Kd.S_bound h.done)) (fun k hk => hk.2.1)
theorem cur_step {cur : Array Value} {m : Nat} {u x : Value} {q : Nat} (h : cur[q]? = some x) (hne : q ≠ m) : (cur.setIfInBounds m u)[q]? = some x := by rw [Array.getElem?_setIfInBounds_ne (Ne.symm hne)]; exact h
theorem cur_put {cur : Array Value} {m : Nat} {u x : Value} (h : cur[m]? = some x) : (cur.setIfInBounds m u)[m]? = some u := by rw [Array.getElem?_setIfInBounds_self_of_lt (Array.getElem?_eq_some_iff.1 h).1]
set_option maxHeartbeats 8000000 in
set_option maxRecDepth 100000 in
theorem drive_own.says (A0 : Option Addr) (c0 : Nat) (l0 : List S41) (a1 : Int) (a2 : Int) (w : World) (hr0 : Kd.C k41 w A0 l0.length l0) (hc0 : l0.length ≤ c0) (hs : ownable l0) :
    Calls Try.prog 33 #[.agg #[.slice A0 l0.length c0, .int .i64 a1, .int .i64 a2]] w fun e w' => ∃ A1 c1, e = .returned (.agg #[.slice A1 l0.length c1, .int .i64 a1, .int .i64 a2]) ∧ l0.length ≤ c1 ∧ HalfD w' 0 w.heap.size A1 l0.length l0 ∧ Below w.heap.size w w' := by
  have hB0 := below_alloc (below_alloc (Below.refl w.heap.size w) (.cells #[.slice A0 l0.length c0, .int .i64 a1, .int .i64 a2] 24)) (.cells #[.slice none 0 0, .int .i64 0, .int .i64 0] 24)
  have bk1 := blk_alloc (blk_new w (.cells #[.slice A0 l0.length c0, .int .i64 a1, .int .i64 a2] 24)) (.cells #[.slice none 0 0, .int .i64 0, .int .i64 0] 24)
  have bk2 := blk_new (w.alloc (.cells #[.slice A0 l0.length c0, .int .i64 a1, .int .i64 a2] 24)) (.cells #[.slice none 0 0, .int .i64 0, .int .i64 0] 24)
  rw [show (w.alloc (.cells #[.slice A0 l0.length c0, .int .i64 a1, .int .i64 a2] 24)).heap.size = w.heap.size + 1 by simp] at bk2
  have hws : ((w.alloc (.cells #[.slice A0 l0.length c0, .int .i64 a1, .int .i64 a2] 24)).alloc (.cells #[.slice none 0 0, .int .i64 0, .int .i64 0] 24)).heap.size = w.heap.size + 2 := by simp
  have hcall := clone_tapes A0 c0 l0 _ w.heap.size (Kd.F_alloc (Kd.F_alloc (Kd.C_F (Kd.heap_iso _ (Kd.heap_pair (Kd.heap_int _) (Kd.heap_pair (Kd.heap_slice _ (Kd.heap_slice _ (Kd.heap_int _))) Kd.heap_bool))) hr0) (.cells #[.slice A0 l0.length c0, .int .i64 a1, .int .i64 a2] 24)) (.cells #[.slice none 0 0, .int .i64 0, .int .i64 0] 24)) (by simp; omega) (by have := hs.1; omega)
  have k1 := blk_cell bk1 0
  have f1 := blk_frozen bk1 0
  have HCALL := Aside0.mk hcall
  have HB0 := Aside0.mk hB0
  have BK1 := Aside0.mk bk1
  have BK2 := Aside0.mk bk2
  have HS := Aside0.mk hs
  have HWS := Aside0.mk hws
  clear hB0 bk1 bk2 hs hr0 hc0 hcall hws
  go_enter Try.func33, Try.ntmps33
  go_wp2_with (go_at_call 57; ( refine (HCALL.out).mono ?_; rintro e w' ⟨A1, c1, rfl, hc1, hH, hb⟩; have HH := Aside0.mk (hH.base (base' := w.heap.size + 2) (by rw [HWS.out]; omega)); have HC1 := Aside0.mk hc1; have HWB := Aside0.mk (show w.heap.size + 2 ≤ w'.heap.size by have h1 := hb.size; have h2 := HWS.out; omega); have BK1' := Aside0.mk (blk_below BK1.out hb); have BK2' := Aside0.mk (blk_below BK2.out hb); have HB' := Aside0.mk (below_step HB0.out hb); clear k1 f1 hH hb hc1; have k1 := blk_cell BK1'.out 0; have f1 := blk_frozen BK1'.out 0))
  go_loopg [3, 4, 5, 6, 14] l0.length (fun kq _ _ _ _ v14 w' => ∃ (x14 : Int), v14 = .int .i64 x14 ∧ Aside0 (0 ≤ x14 ∧ x14 ≤ l0.length ∧ l0.length - x14.toNat ≤ kq) ∧ Aside0 (HalfD w' w.heap.size (w.heap.size + 2) A1 x14.toNat l0) ∧ Aside0 (w'.heap[w.heap.size]? = some (.cells #[.slice A1 l0.length c1, .int .i64 a1, .int .i64 a2] 24 (0, 0))) ∧ Aside0 (w'.heap[w.heap.size + 1]? = some (.cells #[.slice none 0 0, .int .i64 0, .int .i64 0] 24 (0, 0))) ∧ Aside0 (Below w.heap.size w w'))
  case atStart =>
    refine ⟨0, rfl, ⟨by omega, by omega, by omega⟩, ⟨HH.out.step (fun k hk hlt => Below.heap_setCell _ _ _ k (by show k ≠ w.heap.size; omega))⟩, ⟨blk_put BK1'.out 0 _ rfl⟩, ⟨blk_far BK2'.out (by simp) _⟩, ⟨below_set HB'.out (Nat.le_refl _)⟩⟩
  case round =>
    clear HH BK1' BK2' HB' BK1 BK2 HB0 HCALL k1 f1
    obtain ⟨x14, rfl, HI, HH2, BK12, BK22, HB2⟩ := hrel
    by_cases c2 : x14 < (l0.length : Int)
    · have c2b0 : decide (x14 < (l0.length : Int)) = true := decide_eq_true c2
      have p1 : 0 ≤ x14 := HI.out.1
      obtain ⟨g, cur, hA, hg, hbg, hx⟩ := HH2.out (by omega)
      subst hA
      obtain ⟨x, hx0⟩ : ∃ x, l0[x14.toNat]? = some x := ⟨_, List.getElem?_eq_getElem (by omega)⟩
      obtain ⟨A, c, e0, e1, e2, hl, hF⟩ := (hx x14.toNat x hx0).2 (Nat.le_refl _)
      have hxs : x.f1.length ≤ 1000 ∧ (x.f1.all fun b => decide (b.length ≤ 1000000)) = true := by
        have h1 := List.all_eq_true.1 HS.out.2 x (List.mem_of_getElem? hx0)
        rw [Bool.and_eq_true] at h1
        exact ⟨of_decide_eq_true h1.1, h1.2⟩
      have q0 : wr.cell? ⟨g, x14.toNat * 3, none⟩ = some (.int .i64 x.f0) := (blk_cell hg _).trans e0
      have q1 : wr.cell? ⟨g, x14.toNat * 3 + 1, none⟩ = some (.slice A x.f1.length c) := (blk_cell hg _).trans e1
      have q2 : wr.cell? ⟨g, x14.toNat * 3 + 2, none⟩ = some (.bool x.f2) := (blk_cell hg _).trans e2
      have p2 : x14 ≤ 9223372036854775806 := by have := HS.out.1; omega
      have HT := Aside0.mk c2
      have HG := Aside0.mk hg
      have HBG := Aside0.mk hbg
      have HXF := Aside0.mk hx
      have HX0 := Aside0.mk hx0
      have HE := Aside0.mk (And.intro e0 (And.intro e1 e2))
      have HXS := Aside0.mk hxs
      have HF := Aside0.mk hF
      have HL := Aside0.mk hl
      have HGS := Aside0.mk (blk_lt hg)
      have HW2 := Aside0.mk (show w.heap.size + 2 ≤ wr.heap.size by have := blk_lt hg; omega)
      clear hg hbg hx hx0 e0 e1 e2 hxs hF hl
      replace c2 := eq_true c2
      replace p1 := eq_true p1
      go_wp2_with ((with_reducible refine gate_dst (N := 4) rfl ?_); refine box_event ?hg (N := 4) ?hd (cs := #[.int .i64 0, .slice none 0 0, .bool false]) (t := 41) ?hr ?_; (case hd => rfl); (case hg => rfl); (case hr => first | (go_simp; done) | (go_simp; rfl)); intro g4 hg4 w4 hbox hb; (have HG4 := Aside0.mk hg4; have HB4 := Aside0.mk hb; have BK4 := Aside0.mk hbox; have hn1 : g4 ≠ w.heap.size := (by have := HW2.out; omega); have hn2 : g4 ≠ g := (by have := HGS.out; omega); have hn3 := Ne.symm hn1; have hn4 := Ne.symm hn2; have k40 : w4.cell? ⟨g4, 0, none⟩ = some (.int .i64 0) := (blk_cell hbox 0).trans rfl; have k41 : w4.cell? ⟨g4, 1, none⟩ = some (.slice none 0 0) := (blk_cell hbox 1).trans rfl; have k42 : w4.cell? ⟨g4, 2, none⟩ = some (.bool false) := (blk_cell hbox 2).trans rfl; have f40 := blk_frozen hbox 0; have f41 := blk_frozen hbox 1; have f42 := blk_frozen hbox 2; have j10 : w4.cell? ⟨w.heap.size, 0, none⟩ = some (.slice (some ⟨g, 0, none⟩) l0.length c1) := (blk_cell (blk_below BK12.out hb) 0).trans rfl; clear hbox hb hg4 q0 q1 q2))
      have hb4 : Below wr.heap.size wr (((w4.setCell ⟨g4, 0, none⟩ (.int .i64 x.f0)).setCell ⟨g4, 1, none⟩ (.slice A x.f1.length c)).setCell ⟨g4, 2, none⟩ (.bool x.f2)) := three_below HB4.out (by rw [HG4.out]; exact Nat.le_refl _)
      have hk4 := three_put (u0 := .int .i64 x.f0) (u1 := .slice A x.f1.length c) (u2 := .bool x.f2) BK4.out
      have hF4 := Kd.F_below HF.out hb4
      have hw4 := hb4.size
      have j10 := (blk_cell (blk_below BK12.out hb4) 0).trans rfl
      have k41 := (blk_cell hk4 1).trans rfl
      have HB4 := Aside0.mk hb4
      have HK4 := Aside0.mk hk4
      have HF4 := Aside0.mk hF4
      have HW4 := Aside0.mk hw4
      have HRD := Aside0.mk (show ∀ k, k < wr.heap.size → (((w4.setCell ⟨g4, 0, none⟩ (.int .i64 x.f0)).setCell ⟨g4, 1, none⟩ (.slice A x.f1.length c)).setCell ⟨g4, 2, none⟩ (.bool x.f2)).heap[k]? = wr.heap[k]? from fun k hk => hb4.block k hk)
      obtain ⟨W4, hW4⟩ : ∃ W4, W4 = ((w4.setCell ⟨g4, 0, none⟩ (.int .i64 x.f0)).setCell ⟨g4, 1, none⟩ (.slice A x.f1.length c)).setCell ⟨g4, 2, none⟩ (.bool x.f2) := ⟨_, rfl⟩
      rw [← hW4] at HB4 HK4 HF4 HW4 HRD j10 k41 ⊢
      clear BK4 hb4 hk4 hF4 hw4 k40 k42 f40 f41 f42 hW4
      go_region_with (go_at_call 58; (refine (clone_rows A c x.f1 _ w.heap.size (Kd.F_drew HF4.out) (by show w.heap.size ≤ W4.heap.size; have := HW2.out; have := HW4.out; omega) (by have := HXS.out.1; omega)).mono ?_; rintro e w5 ⟨v5, rfl, hH5, hb5⟩; obtain ⟨A5, c5, he5, hc5⟩ := hH5.slice2; subst he5; have HC5 := Aside0.mk hc5; have HH5 := Aside0.mk hH5; have hbW := below_step (Below.drew (Below.refl W4.heap.size W4)) hb5; have HB5 := Aside0.mk hbW; have bk1 := blk_below (blk_below BK12.out HB4.out) hbW; have j15 := (blk_cell bk1 0).trans rfl; have bk4 := blk_below HK4.out hbW; have BK45 := Aside0.mk bk4; have k45 := (blk_cell bk4 1).trans rfl; have bg := blk_below (blk_below HG.out HB4.out) hbW; have HG5 := Aside0.mk bg; have q15 := (blk_cell bg (x14.toNat * 3 + 1)).trans HE.out.2.1; have qf5 := blk_frozen bg (x14.toNat * 3 + 1); clear hH5 hb5 hbW bk1 bk4 bg hc5 j10 k41))
      all_goals (
        go_wp2
        have hrd : OpenD (w5.setCell ⟨g, x14.toNat * 3 + 1, none⟩ (.slice A5 x.f1.length c5)) w.heap.size (w.heap.size + 2) W4.heap.size g (cur.setIfInBounds (x14.toNat * 3 + 1) (.slice A5 x.f1.length c5)) x14.toNat l0 :=
          OpenD.of (W := W4) (blk_below HG.out HB4.out) HBG.out (by omega) (fun j y hj => ⟨fun h => ((HXF.out j y hj).1 h).step (fun k _ hlt => HRD.out k hlt), fun h => ((HXF.out j y hj).2 h).step (fun k _ hlt => HRD.out k hlt)⟩) HB5.out _
        have HOD := Aside0.mk hrd
        have HS0 := Aside0.mk (show HalfS (w5.setCell ⟨g, x14.toNat * 3 + 1, none⟩ (.slice A5 x.f1.length c5)) w.heap.size W4.heap.size (.slice A5 x.f1.length c5) 0 x.f1 from
          HH5.out.far _ _ (by show w.heap.size ≤ g; have := HBG.out; omega) (fun e => by obtain ⟨f_, inner_, hb_, _⟩ := HH5.out; have h9 : W4.heap.size ≤ g := hb_ g e.symm; have := HGS.out; have := HW4.out; omega) ⟨_, _, HG5.out, by decide⟩)
        have HB6 := Aside0.mk (show Below w.heap.size w (w5.setCell ⟨g, x14.toNat * 3 + 1, none⟩ (.slice A5 x.f1.length c5)) from below_set (below_step (below_step HB2.out HB4.out) HB5.out) (by show w.heap.size ≤ g; have := HBG.out; omega))
        have HF6 := Aside0.mk (show Kd.F (Kd.slice 5 (Kd.int .u8)) (w5.setCell ⟨g, x14.toNat * 3 + 1, none⟩ (.slice A5 x.f1.length c5)) (fun k => k < w.heap.size) A x.f1.length x.f1 from
          Kd.F_far (Kd.F_below HF4.out HB5.out) (fun k hk => by show k ≠ g; have := HBG.out; omega) _)
        have HB16 := Aside0.mk (show (w5.setCell ⟨g, x14.toNat * 3 + 1, none⟩ (.slice A5 x.f1.length c5)).heap[w.heap.size]? = some (.cells #[.slice (some ⟨g, 0, none⟩) l0.length c1, .int .i64 a1, .int .i64 a2] 24 (0, 0)) from blk_far (blk_below (blk_below BK12.out HB4.out) HB5.out) (by show w.heap.size ≠ g; have := HBG.out; omega) _)
        have HB26 := Aside0.mk (show (w5.setCell ⟨g, x14.toNat * 3 + 1, none⟩ (.slice A5 x.f1.length c5)).heap[w.heap.size + 1]? = some (.cells #[.slice none 0 0, .int .i64 0, .int .i64 0] 24 (0, 0)) from blk_far (blk_below (blk_below BK22.out HB4.out) HB5.out) (by show w.heap.size + 1 ≠ g; have := HBG.out; omega) _)
        have HLIM := Aside0.mk (show w.heap.size + 2 ≤ W4.heap.size by have := HW2.out; have := HW4.out; omega)
        obtain ⟨lim, hlim⟩ : ∃ lim, lim = W4.heap.size := ⟨_, rfl⟩
        rw [← hlim] at HOD HS0 HLIM
        clear hrd HH5 HB5 BK45 HG5 HB4 HK4 HF4 HW4 HRD k45 q15 qf5 j15 hlim HG4 hn1 hn2 hn3 hn4
        go_loopg [5, 6, 30] x.f1.length (fun kq _ _ v30 w' => ∃ (x30 : Int), v30 = .int .i64 x30 ∧ Aside0 (0 ≤ x30 ∧ x30 ≤ x.f1.length ∧ x.f1.length - x30.toNat ≤ kq) ∧ Aside0 (HalfS w' w.heap.size lim (.slice A5 x.f1.length c5) x30.toNat x.f1) ∧ Aside0 (OpenD w' w.heap.size (w.heap.size + 2) lim g (cur.setIfInBounds (x14.toNat * 3 + 1) (.slice A5 x.f1.length c5)) x14.toNat l0) ∧ Aside0 (w'.heap[w.heap.size]? = some (.cells #[.slice (some ⟨g, 0, none⟩) l0.length c1, .int .i64 a1, .int .i64 a2] 24 (0, 0))) ∧ Aside0 (w'.heap[w.heap.size + 1]? = some (.cells #[.slice none 0 0, .int .i64 0, .int .i64 0] 24 (0, 0))) ∧ Aside0 (Below w.heap.size w w') ∧ Aside0 (Kd.F (Kd.slice 5 (Kd.int .u8)) w' (fun k => k < w.heap.size) A x.f1.length x.f1))
        case atStart =>
          exact ⟨0, rfl, ⟨by omega, by omega, by omega⟩, HS0, HOD, HB16, HB26, HB6, HF6⟩
        case round =>
          clear HS0 HOD HB16 HB26 HB6 HF6
          obtain ⟨x30, rfl, HI3, HS3, HOD3, HB13, HB23, HB3, HF3⟩ := hrel
          by_cases c3 : x30 < (x.f1.length : Int)
          · have c3b0 : decide (x30 < (x.f1.length : Int)) = true := decide_eq_true c3
            have p3 : 0 ≤ x30 := HI3.out.1
            obtain ⟨ad, A3, c3_, e3, hq3, hl3, hC3⟩ := at_row (Kd.F_now HF3.out) x30 p3 c3
            subst e3
            obtain ⟨g5, cap5, he5, hbg5, hglt5, cells5, hcg5⟩ := HS3.out.form (by omega)
            injection he5 with he51 he52 he53
            subst he51 he53
            obtain ⟨A6, c6_, hx6, hfr6, _, _⟩ := HS3.out.get (i := x30.toNat) (by omega)
            have hxr : x.f1[x30.toNat]? = some (rdRow x.f1 x30) := by unfold rdRow; rw [List.getD_eq_getElem?_getD, List.getElem?_eq_getElem (by omega : x30.toNat < x.f1.length)]; rfl
            have hxm : (rdRow x.f1 x30).length ≤ 1000000 := of_decide_eq_true (List.all_eq_true.1 HXS.out.2 _ (List.mem_of_getElem? hxr))
            have j3 := (blk_cell HB13.out 0).trans rfl
            have hgr := HOD3.out.1
            have q3 := (blk_cell hgr (x14.toNat * 3 + 1)).trans (cur_put HE.out.2.1)
            have p4 : x30 ≤ 9223372036854775806 := by have := HXS.out.1; omega
            have HT3 := Aside0.mk c3
            have HXR := Aside0.mk hxr
            have HXM := Aside0.mk hxm
            have HC3 := Aside0.mk hC3
            have HL3 := Aside0.mk hl3
            have HGR := Aside0.mk hgr
            have HCG := Aside0.mk hcg5
            have HX6 := Aside0.mk hx6
            have HBG5 := Aside0.mk hbg5
            clear hxr hxm hC3 hl3 hgr hcg5 hglt5 hbg5
            replace c3 := eq_true c3
            replace p3 := eq_true p3
            go_wp2
            go_region_with (go_at_call 55; (refine (clone_any A3 c3_ (rdRow x.f1 x30) _ (Kd.C_drew HC3.out) HXM.out).mono ?_; rintro e w7 ⟨v7, rfl, hR, hb7⟩; obtain ⟨A7, c7, he7⟩ := Kd.R_slice hR; subst he7; have hbW := below_step (Below.drew (Below.refl wr.heap.size wr)) hb7; have HBW := Aside0.mk hbW; have HRX := Aside0.mk hR; have j37 := (blk_cell (blk_below HB13.out hbW) 0).trans rfl; have q37 := (blk_cell (blk_below HGR.out hbW) (x14.toNat * 3 + 1)).trans (cur_put HE.out.2.1); have x67 := pw_cell_below hbW HX6.out; have f67 := blk_frozen (blk_below HCG.out hbW) x30.toNat; clear hR hb7 hbW))
            all_goals (
              go_wp2
              go_roundg (x.f1.length - (x30.toNat + 1))
              case measure => have := HT3.out; have := HI3.out.1; have := HI3.out.2.2; omega
              case rel =>
                have hlw : lim ≤ wr.heap.size := HOD3.out.2.1
                refine ⟨x30 + 1, (by first | rfl | exact wrap_step (by have := HI3.out.1; omega) p4), ⟨by have := HI3.out.1; omega, by have := HT3.out; omega, by have := HI3.out.1; omega⟩, ⟨?_⟩, ⟨HOD3.out.step HBW.out _ HBG5.out _⟩, ⟨blk_far (blk_below HB13.out HBW.out) (by show w.heap.size ≠ g5; have := HBG5.out; have := HLIM.out; omega) _⟩, ⟨blk_far (blk_below HB23.out HBW.out) (by show w.heap.size + 1 ≠ g5; have := HBG5.out; have := HLIM.out; omega) _⟩, ⟨below_set (below_step HB3.out HBW.out) (by show w.heap.size ≤ g5; have := HBG5.out; have := HLIM.out; omega)⟩, ⟨Kd.F_far (Kd.F_below HF3.out HBW.out) (fun k hk => by show k ≠ g5; have := HBG5.out; have := HLIM.out; omega) _⟩⟩
                rw [show (x30 + 1).toNat = x30.toNat + 1 by have := HI3.out.1; omega]
                exact HS3.out.step HXR.out (by have := HLIM.out; omega) hlw HBW.out HRX.out)
          · have c3b0 : decide (x30 < (x.f1.length : Int)) = false := decide_eq_false c3
            have hx30 : x30.toNat = x.f1.length := by have := HI3.out.1; have := HI3.out.2.1; omega
            have hs9 := HS3.out
            rw [hx30] at hs9
            have HD9 := Aside0.mk (HOD3.out.close HX0.out (cur_step HE.out.1 (by omega)) (cur_put HE.out.2.1) (cur_step HE.out.2.2 (by omega)) HC5.out hs9.F)
            clear c3 hx30 hs9
            go_wp2
            go_roundg (l0.length - (x14.toNat + 1))
            case measure => have := HT.out; have := HI.out.1; have := HI.out.2.2; omega
            case rel =>
              refine ⟨x14 + 1, (by first | rfl | exact wrap_step (by have := HI.out.1; omega) p2), ⟨by have := HI.out.1; omega, by have := HT.out; omega, by have := HI.out.1; omega⟩, ⟨?_⟩, HB13, HB23, HB3⟩
              rw [show (x14 + 1).toNat = x14.toNat + 1 by have := HI.out.1; omega]
              exact HD9.out)
    · have c2b0 : decide (x14 < (l0.length : Int)) = false := decide_eq_false c2
      have hx14 : x14.toNat = l0.length := by have := HI.out.1; have := HI.out.2.1; omega
      have hd := HH2.out
      rw [hx14] at hd
      have HD := Aside0.mk hd
      have k10 := (blk_cell BK12.out 0).trans rfl
      have k11 := (blk_cell BK12.out 1).trans rfl
      have k12 := (blk_cell BK12.out 2).trans rfl
      have f20 := blk_frozen BK22.out 0
      have f21 := blk_frozen BK22.out 1
      have f22 := blk_frozen BK22.out 2
      have k20 := (blk_cell BK22.out 0).trans rfl
      have k21 := (blk_cell BK22.out 1).trans rfl
      have k22 := (blk_cell BK22.out 2).trans rfl
      clear c2 hx14 hd
      go_wp2
      have hc3 := three_put (u0 := .slice A1 l0.length c1) (u1 := .int .i64 a1) (u2 := .int .i64 a2) BK22.out
      refine bodyPost_ret (results_single (r := .cell 2 24) rfl (.cell (w.heap.size + 1) 24 #[.slice A1 l0.length c1, .int .i64 a1, .int .i64 a2] (0, 0) _ rfl hc3 Try.underlying24 rfl (by kernel_rfl) .nil)) rfl ?_
      refine ⟨A1, c1, rfl, HC1.out, ?_, below_set (below_set (below_set HB2.out (by omega)) (by omega)) (by omega)⟩
      intro h0
      obtain ⟨g, cur, rfl, hg, hb, hx⟩ := HD.out h0
      exact ⟨g, cur, rfl, (three_heap (by omega)).trans hg, by omega, fun j x hj => ⟨fun h => (((hx j x hj).1 h).step (fun k hk hlt => three_heap (by have := hk.1; omega))).mono (fun k hk => ⟨by have := hk.1; omega, hk.2⟩), fun h => absurd (List.getElem?_eq_some_iff.1 hj).1 (by omega)⟩⟩
theorem drive_own.calls (A0_0 : Option Addr) (c0_0 : Nat) (l0_0 : List S41) (a0_1 : Int) (a0_2 : Int) (r1 : List S41) (r2 : Int) (r3 : Int) (w : World) (hr0_0 : Kd.C k41 w A0_0 l0_0.length l0_0) (hc0_0 : l0_0.length ≤ c0_0) (h : drive_own.f l0_0 a0_1 a0_2 = some (r1, r2, r3)) :
    Calls Try.prog 33 #[.agg #[.slice A0_0 l0_0.length c0_0, .int .i64 a0_1, .int .i64 a0_2]] w fun e w' => ∃ v0_ : Value, e = .returned (.agg #[v0_, .int .i64 r2, .int .i64 r3]) ∧ Kd.V k41 41 w' w.heap.size (fun k_ => (w.heap.size ≤ k_)) v0_ r1 ∧ Below w.heap.size w w' := by
  unfold drive_own.f at h
  by_cases hs : ownable l0_0
  case neg => rw [if_neg hs] at h; cases h
  rw [if_pos hs] at h
  simp only [Option.some.injEq, Prod.mk.injEq] at h
  obtain ⟨rfl, rfl, rfl⟩ := h
  refine (drive_own.says A0_0 c0_0 l0_0 a0_1 a0_2 w hr0_0 hc0_0 hs).mono ?_
  rintro e w' ⟨A1, c1, rfl, hc1, hH, hb⟩
  exact ⟨_, rfl, hH.V (by have := hs.1; omega) hc1, hb⟩

end Go.Proofs.Ytpbfeegfkiegeaa.M
