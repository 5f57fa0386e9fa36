/- Part of a claim: what some functions of the program compute, each with its contract; no condition of its own. Written by a program of this workplace (gen.py, over the print of the kit) and by hand. -/
import Derived.Test.YtpbfeegfkiegeaaM0
import Derived.Test.YtpbfeegfkiegeaaM1
import Derived.Test.YtpbfeegfkiegeaaM2
namespace Go.Proofs.Ytpbfeegfkiegeaa.M
open Go.RowKit Go.Proofs.YtpbfeegfkiegeaaW.PrintWords Go.Proofs.YtpbfeegfkiegeaaW.PrintLast Go.Proofs.YtpbfeegfkiegeaaW.PrintMore
attribute [local go_sem] max2_int min2_int max_two min_two max_three min_three max_four min_four   -- for this text's walks alone
set_option linter.unusedVariables false
set_option linter.unusedSimpArgs false

def TapeIn (W : World) (ok : Nat → Prop) (cur : Array Value) (j : Nat) (x : S41) : Prop :=
  ∃ A c, cur[j * 3]? = some (.int .i64 x.f0) ∧ cur[j * 3 + 1]? = some (.slice A x.f1.length c) ∧ cur[j * 3 + 2]? = some (.bool x.f2) ∧ x.f1.length ≤ c ∧ Kd.F (Kd.slice 5 (Kd.int .u8)) W ok A x.f1.length x.f1
theorem TapeIn.mono {W : World} {ok ok' : Nat → Prop} {cur : Array Value} {j : Nat} {x : S41} (h : TapeIn W ok cur j x) (hok : ∀ k, ok k → ok' k) : TapeIn W ok' cur j x := by
  obtain ⟨A, c, h0, h1, h2, hl, hF⟩ := h
  exact ⟨A, c, h0, h1, h2, hl, Kd.F_mono hF hok⟩
theorem TapeIn.step {W W1 : World} {ok : Nat → Prop} {cur : Array Value} {j : Nat} {x : S41} (h : TapeIn W ok cur j x) (hm : ∀ k, ok k → k < W.heap.size → W1.heap[k]? = W.heap[k]?) : TapeIn W1 ok cur j x := by
  obtain ⟨A, c, h0, h1, h2, hl, hF⟩ := h
  exact ⟨A, c, h0, h1, h2, hl, Kd.F_step hF hm⟩
theorem TapeIn.bound {W : World} {ok : Nat → Prop} {cur : Array Value} {j : Nat} {x : S41} (h : TapeIn W ok cur j x) : TapeIn W (fun k => ok k ∧ k < W.heap.size) cur j x := by
  obtain ⟨A, c, h0, h1, h2, hl, hF⟩ := h
  exact ⟨A, c, h0, h1, h2, hl, Kd.F_bound hF⟩
theorem TapeIn.cells {W : World} {ok : Nat → Prop} {cur cur' : Array Value} {j : Nat} {x : S41} (h : TapeIn W ok cur j x) (hc : ∀ i, i < 3 → cur'[j * 3 + i]? = cur[j * 3 + i]?) : TapeIn W ok cur' j x := by
  obtain ⟨A, c, h0, h1, h2, hl, hF⟩ := h
  exact ⟨A, c, (hc 0 (by decide)).trans h0, (hc 1 (by decide)).trans h1, (hc 2 (by decide)).trans h2, hl, hF⟩
def HalfD (W : World) (old base : Nat) (A : Option Addr) (i : Nat) (l : List S41) : Prop :=
  0 < l.length → ∃ (g : Nat) (cur : Array Value), A = some ⟨g, 0, none⟩ ∧ W.heap[g]? = some (.cells cur 41 (0, 0)) ∧ base ≤ g ∧
    ∀ j x, l[j]? = some x → (j < i → TapeIn W (fun k => base ≤ k ∧ k ≠ g) cur j x) ∧ (i ≤ j → TapeIn W (fun k => k < old) cur j x)
theorem HalfD.step {W W1 : World} {old base : Nat} {A : Option Addr} {i : Nat} {l : List S41} (h : HalfD W old base A i l) (hm : ∀ k, base ≤ k ∨ k < old → k < W.heap.size → W1.heap[k]? = W.heap[k]?) : HalfD W1 old base A i l := by
  intro h0
  obtain ⟨g, cur, rfl, hg, hb, hx⟩ := h h0
  exact ⟨g, cur, rfl, (hm g (.inl hb) (blk_lt hg)).trans hg, hb, fun j x hj => ⟨fun h1 => ((hx j x hj).1 h1).step (fun k hk hlt => hm k (.inl hk.1) hlt), fun h1 => ((hx j x hj).2 h1).step (fun k hk hlt => hm k (.inr hk) hlt)⟩⟩
theorem HalfD.base {W : World} {old base base' : Nat} {A : Option Addr} {i : Nat} {l : List S41} (h : HalfD W old base A i l) (hb : base' ≤ base) : HalfD W old base' A i l := by
  intro h0
  obtain ⟨g, cur, rfl, hg, hb1, hx⟩ := h h0
  exact ⟨g, cur, rfl, hg, by omega, fun j x hj => ⟨fun h1 => ((hx j x hj).1 h1).mono (fun k hk => ⟨by have := hk.1; omega, hk.2⟩), (hx j x hj).2⟩⟩
theorem HalfD.F {W : World} {old base : Nat} {A : Option Addr} {l : List S41} (h : HalfD W old base A l.length l) (hl : l.length ≤ 1000000) (hA : l.length = 0 → A = none ∨ ∃ ad, A = some ad) : Kd.F k41 W (fun k => base ≤ k) A l.length l := by
  intro W' hW
  refine ⟨rfl, by omega, fun h0 => ?_⟩
  obtain ⟨g, cur, rfl, hg, hb, hx⟩ := h h0
  refine ⟨_, rfl, fun j p hj => ?_⟩
  have hjl : j < l.length := (List.getElem?_eq_some_iff.1 hj).1
  obtain ⟨A2, c2, e0, e1, e2, hl2, hF⟩ := (hx j p hj).1 hjl
  refine ⟨[.int .i64 p.f0, .slice A2 p.f1.length c2, .bool p.f2], rfl, k41_mk W' p hl2 (hF W' (fun k hk hlt => hW k hk.1 hlt)), fun i u hu => ?_⟩
  have hi : i < 3 := (List.getElem?_eq_some_iff.1 hu).1
  have hg' : W'.heap[g]? = some (.cells cur 41 (0, 0)) := (hW g hb (blk_lt hg)).trans hg
  rw [add_plain, show j * k41.sz + i = j * 3 + i from rfl, blk_cell hg' (j * 3 + i)]
  match i, hi with
  | 0, _ => exact e0.trans hu
  | 1, _ => exact e1.trans hu
  | 2, _ => exact e2.trans hu
theorem HalfD.V {W : World} {old base B : Nat} {A : Option Addr} {c : Nat} {l : List S41} (h : HalfD W old base A l.length l) (hl : l.length ≤ 1000000) (hc : l.length ≤ c) : Kd.V k41 41 W B (fun k => base ≤ k) (.slice A l.length c) l :=
  Kd.V_mk hc (h.F hl (fun _ => by cases A with | none => exact .inl rfl | some a => exact .inr ⟨a, rfl⟩))
theorem made_none_tapes (w : World) : (Kd.raw 3).R 41 (w.alloc (.cells #[] 41)) w.heap.size (fun _ => True) (.slice (some ⟨w.heap.size, 0, none⟩) 0 0) [] :=
  ⟨fun _ _ => trivial, [], World.ownsRow_made w #[] 0 (Nat.le_refl _) (Nat.zero_le _) rfl, Reps.none _ _⟩
set_option maxHeartbeats 8000000 in
set_option maxRecDepth 100000 in
theorem clone_tapes (A0 : Option Addr) (c : Nat) (l : List S41) (w : World) (old : Nat) (hr : Kd.F k41 w (fun k => k < old) A0 l.length l) (hold : old ≤ w.heap.size) (hl : l.length ≤ 1000000) :
    Calls Try.prog 57 #[.slice A0 l.length c] w fun e w' => ∃ A1 c1, e = .returned (.slice A1 l.length c1) ∧ l.length ≤ c1 ∧ HalfD w' old w.heap.size A1 0 l ∧ Below w.heap.size w w' := by
  have q22 : ∀ (w : World) (a : Option Addr) (n c n' c' : Nat), (binOp .eql 22 (.slice a n c) (.slice none n' c')).run Try.prog w = .ok (.bool a.isNone) w := fun w a n c n' c' => eql_nil w _ _ a n c n' c' Try.underlying22
  cases A0 with
  | none =>
    have h0 : l = [] := by
      rcases Nat.eq_zero_or_pos l.length with h | h
      · exact List.eq_nil_of_length_eq_zero h
      · obtain ⟨ad, he, _⟩ := (Kd.F_now hr).2.2 h
        cases he
    subst h0
    clear hr hl
    go_enter Try.func57, Try.ntmps57
    go_wp2
    go_ret
    exact ⟨none, 0, rfl, Nat.le_refl _, fun h => absurd h (by decide), Below.refl _ _⟩
  | some ad =>
    obtain ⟨news, hnl, hnr, hnf⟩ := Kd.reads_raw (Kd.F_rows hr) (fun y c hk => ⟨Kd.K_len _ (Kd.FK_now hk), Kd.K_one _ (Kd.FK_now hk)⟩)
    have HB := Aside0.mk ((Below.refl w.heap.size w).alloc (Nat.le_refl _) (.cells #[] 41))
    have HR := Aside0.mk (show (Kd.raw 3).C (w.alloc (.cells #[] 41)) (some ad) l.length news from Kd.C_alloc (d := Kd.raw 3) hnr (.cells #[] 41))
    have HL := Aside0.mk hl
    have HM := Aside0.mk (made_none_tapes w)
    have HN := Aside0.mk hnl
    have HF := Aside0.mk hnf
    clear hr hl hnl hnr hnf
    go_enter Try.func57, Try.ntmps57
    go_wp2_with (((with_reducible refine gate_builtin (b := .append) (xs := #[.tmp 5, .tmp 6]) rfl ?_); at_builtin; refine Kd.R_append_rows (Kd.raw 3) (w0 := w) w.heap.size rfl (.tmp 5) (.tmp 6) 22 41 (.agg #[.int .i64 0, .slice none 0 0, .bool false]) 40 rfl Try.underlying22 info41 rfl (by decide) (by omega) _ [] news _ _ _ (fun _ => True) (fun _ => False) rfl rfl HM.out HR.out (fun _ _ h => h) (fun _ h => h.elim) (fun _ _ => trivial) HB.out (below_size HB.out) (by have := HL.out; simp; omega) ?_; intro v1 w1 ho hb hg hat; have HO' := Aside0.mk ho; have HB' := Aside0.mk hb; clear ho hb hg hat))
    go_ret
    obtain ⟨_, inner, ho, hrp⟩ := HO'.out
    rw [List.nil_append] at ho
    have hnn := HN.out
    obtain ⟨A1, c1, he, hA⟩ : ∃ A1 c1, v1 = .slice A1 l.length c1 ∧ l.length ≤ c1 := by
      rcases ho.2 with ⟨rfl, h0⟩ | ⟨g, cap, cur, rfl, _, _, hcap, _⟩
      · exact ⟨none, 0, by rw [← hnn, h0], by omega⟩
      · exact ⟨_, cap, by rw [hnn], by omega⟩
    refine ⟨A1, c1, by rw [he]; rfl, hA, fun h0 => ?_, HB'.out⟩
    have hlen : inner.length = 3 * l.length := by have h1 := hrp.1; simp only [List.nil_append, show (Kd.raw 3).sz = 3 from rfl] at h1; omega
    rcases ho.2 with ⟨hv, h00⟩ | ⟨g, cap, cur, hv, hg, hh, hn, hm, hs, ht⟩
    · omega
    · rw [he] at hv
      injection hv with hv1 hv2 hv3
      refine ⟨g, cur, hv1, hh, hg, fun j x hj => ⟨fun h => by omega, fun _ => ?_⟩⟩
      have hjl : j < l.length := (List.getElem?_eq_some_iff.1 hj).1
      have h1 := hrp.2 j news[j] (by rw [List.nil_append]; exact List.getElem?_eq_getElem (by omega))
      have h2 : (inner.drop (j * 3)).take 3 = news[j] := h1.1
      have h4 := HF.out j x news[j] hj (List.getElem?_eq_getElem (by omega))
      rw [← h2] at h4
      obtain ⟨A2, c2, he2, hl2, hF2⟩ := k41_openF h4
      have hcell : ∀ i, i < 3 → cur[j * 3 + i]? = ((inner.drop (j * 3)).take 3)[i]? := fun i hi => by
        have hln := congrArg List.length ht
        rw [List.length_take] at hln
        rw [List.getElem?_take_of_lt hi, List.getElem?_drop, ← ht, List.getElem?_take_of_lt (by omega)]
        simp
      refine ⟨A2, c2, ?_, ?_, ?_, hl2, Kd.F_step hF2 (fun k hk hlt => HB'.out.block k (by omega))⟩
      · have := hcell 0 (by decide); rw [he2] at this; exact this
      · have := hcell 1 (by decide); rw [he2] at this; exact this
      · have := hcell 2 (by decide); rw [he2] at this; exact this

def PredTape (g : Nat) (p : S41 → Bool) : Prop :=
  ∀ (W : World) (A : Option Addr) (c : Nat) (x : S41), Kd.C (Kd.slice 5 (Kd.int .u8)) W A x.f1.length x.f1 → x.f1.length ≤ c → Calls Try.prog g #[.agg #[.int .i64 x.f0, .slice A x.f1.length c, .bool x.f2]] W fun e w' => e = .returned (.bool (p x)) ∧ Below W.heap.size W w'
set_option maxHeartbeats 8000000 in
set_option maxRecDepth 100000 in
theorem idx_tapes (g : Nat) (p : S41 → Bool) (eg : ∀ args w, (callFunc g args).run Try.prog w = .ok (.enter g args) w) (hp : PredTape g p) (A0 : Option Addr) (c0 : Nat) (l0 : List S41) (w : World)
    (hr0 : Kd.C k41 w A0 l0.length l0) (hc0 : l0.length ≤ c0) :
    Calls Try.prog 67 #[.slice A0 l0.length c0, .func (.func g) #[] #[]] w fun e w' => e = .returned (.int .i64 (fidx p l0)) ∧ Below w.heap.size w w' := by
  have HR0 := Aside0.mk hr0
  have HC0 := Aside0.mk hc0
  have HP := Aside0.mk hp
  have HM := Aside0.mk hr0.2.1
  clear hr0 hc0 hp
  go_enter Try.func67, Try.ntmps67
  go_wp2
  go_loopg [5, 8] l0.length (fun kq _ v8 w' => ∃ (x8 : Int), v8 = .int .i64 x8 ∧ Aside0 (0 ≤ x8 ∧ x8 ≤ l0.length ∧ l0.length - x8.toNat ≤ kq ∧ ∀ j, j < x8.toNat → p (l0.getD j z41) = false) ∧ Aside0 (Below w.heap.size w w'))
  case atStart => exact ⟨0, rfl, ⟨by omega, by omega, by omega, fun j hj => by simp at hj⟩, ⟨by repeat (first | exact Below.refl _ _ | apply pw_below_drewN)⟩⟩
  case round =>
    obtain ⟨x8, rfl, HI, HB⟩ := hrel
    by_cases c2 : x8 < (l0.length : Int)
    · have c2b0 : decide (x8 < (l0.length : Int)) = true := decide_eq_true c2
      have p1 : 0 ≤ x8 := HI.out.1
      obtain ⟨ad, A1, c1, e1, hx0, hx1, hx2, hl1, hi1⟩ := at_T41 (Kd.C_below HR0.out HB.out) x8 p1 c2
      cases e1
      have HL1 := Aside0.mk hl1
      have HI1 := Aside0.mk hi1
      have p2 : x8 ≤ 9223372036854775806 := by have := HM.out; omega
      have HT := Aside0.mk c2
      clear hl1 hi1
      replace c2 := eq_true c2
      replace p1 := eq_true p1
      have hcall := fun (W : World) (hb : Below wr.heap.size wr W) => HP.out W A1 c1 (rd_T41 l0 x8) (Kd.C_below HI1.out hb) HL1.out
      cases hq : p (rd_T41 l0 x8) with
      | true =>
        have HQ := Aside0.mk hq
        rw [hq] at hcall
        clear hq
        have HCALL := Aside0.mk hcall
        clear hcall
        go_wp2_with (go_at_fn g; refine (HCALL.out _ (by repeat (first | exact Below.refl _ _ | apply pw_below_drewN))).mono ?_; rintro e w2 ⟨rfl, hb⟩; have HB2 := Aside0.mk (below_step (by repeat (first | exact HB.out | apply pw_below_drewN)) hb); clear hb)
        go_ret
        have h8 : x8 = (x8.toNat : Int) := by have := HI.out.1; omega
        refine ⟨?_, by repeat (first | exact HB2.out | apply pw_below_drewN)⟩
        show Ending.returned (.int .i64 x8) = .returned (.int .i64 (fidx p l0))
        rw [fidx_hit p l0 z41 x8.toNat (by have := HT.out; omega) HQ.out HI.out.2.2.2, ← h8]
      | false =>
        have HQ := Aside0.mk hq
        rw [hq] at hcall
        clear hq
        have HCALL := Aside0.mk hcall
        clear hcall
        go_wp2_with (go_at_fn g; refine (HCALL.out _ (by repeat (first | exact Below.refl _ _ | apply pw_below_drewN))).mono ?_; rintro e w2 ⟨rfl, hb⟩; have HB2 := Aside0.mk (below_step (by repeat (first | exact HB.out | apply pw_below_drewN)) hb); clear hb)
        go_roundg (l0.length - (x8.toNat + 1))
        case measure => have := HT.out; have := HI.out.1; have := HI.out.2.2.1; omega
        case rel =>
          refine ⟨x8 + 1, wrap_step (by have := HI.out.1; omega) p2, ⟨by have := HI.out.1; omega, by have := HT.out; omega, by have := HI.out.1; omega, fun j hj => ?_⟩, ⟨by repeat (first | exact HB2.out | apply pw_below_drewN)⟩⟩
          by_cases ej : j = x8.toNat
          · subst ej; exact HQ.out
          · exact HI.out.2.2.2 j (by have := HI.out.1; omega)
    · have c2b0 : decide (x8 < (l0.length : Int)) = false := decide_eq_false c2
      have HT := Aside0.mk c2
      clear c2
      go_wp2
      go_ret
      refine ⟨?_, by repeat (first | exact HB.out | apply pw_below_drewN)⟩
      show Ending.returned (.int .i64 (-1)) = .returned (.int .i64 (fidx p l0))
      rw [fidx_miss p l0 z41 (fun j hj => HI.out.2.2.2 j (by have := HT.out; have := HI.out.2.1; omega))]
set_option maxHeartbeats 8000000 in
set_option maxRecDepth 100000 in
theorem contains_tapes (g : Nat) (p : S41 → Bool) (eg : ∀ args w, (callFunc g args).run Try.prog w = .ok (.enter g args) w) (hp : PredTape g p) (A0 : Option Addr) (c0 : Nat) (l0 : List S41) (w : World)
    (hr0 : Kd.C k41 w A0 l0.length l0) (hc0 : l0.length ≤ c0) :
    Calls Try.prog 53 #[.slice A0 l0.length c0, .func (.func g) #[] #[]] w fun e w' => e = .returned (.bool (l0.any p)) ∧ Below w.heap.size w w' := by
  have HCALL := Aside0.mk (idx_tapes g p eg hp A0 c0 l0 w hr0 hc0)
  clear hp hr0 hc0
  rw [← fidx_ge p l0]
  generalize fidx p l0 = n at HCALL ⊢
  go_enter Try.func53, Try.ntmps53
  go_wp2_with (go_at_call 67; refine (HCALL.out).mono ?_; rintro e w2 ⟨rfl, hb⟩; have HB2 := Aside0.mk hb; clear hb)
  go_ret
  exact ⟨by first | rfl | (simp; done), by repeat (first | exact HB2.out | apply pw_below_drewN)⟩

end Go.Proofs.Ytpbfeegfkiegeaa.M
