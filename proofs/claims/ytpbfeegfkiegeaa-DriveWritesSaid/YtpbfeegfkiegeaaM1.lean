/- Part of a claim: what some functions of the program compute, each with its contract; no condition of its own. Written by a program of this workplace (gen.py, over the print of the kit) and by hand. -/
import Derived.Test.YtpbfeegfkiegeaaM0
namespace Go.Proofs.Ytpbfeegfkiegeaa.M
open Go.RowKit Go.Proofs.YtpbfeegfkiegeaaW.PrintWords Go.Proofs.YtpbfeegfkiegeaaW.PrintLast Go.Proofs.YtpbfeegfkiegeaaW.PrintMore
attribute [local go_sem] max2_int min2_int max_two min_two max_three min_three max_four min_four   -- for this text's walks alone
set_option linter.unusedVariables false
set_option linter.unusedSimpArgs false

theorem made_list (z : Value) (m : Nat) : (madeCells #[z] m).toList = List.replicate m z := by
  apply List.ext_getElem
  · simp [madeCells]
  · intro i h1 h2
    simp [madeCells, Nat.mod_one]

/-! ### slices.IndexFunc and slices.ContainsFunc at [][]byte, whatever the predicate -/
/-- An element of a row of rows; one that is read. -/
def rdRow {α : Type} (xs : List (List α)) (i : Int) : List α := xs.getD i.toNat []
theorem at_row {α : Type} {e : Nat} {d : Kd α} {w : World} {A : Option Addr} {n : Nat} {xs : List (List α)} (h : Kd.C (Kd.slice e d) w A n xs) (i : Int) (h0 : 0 ≤ i) (h1 : i < n) :
    ∃ ad A0 c0, A = some ad ∧ w.cell? (ad.add i.toNat) = some (.slice A0 (rdRow xs i).length c0) ∧ (rdRow xs i).length ≤ c0 ∧ d.C w A0 (rdRow xs i).length (rdRow xs i) := by
  obtain ⟨ad, c, e, _, hK, hc0⟩ := Kd.C_get h ([] : List α) i h0 h1
  obtain ⟨A0, c0, rfl, l0, g0⟩ := hK
  exact ⟨ad, A0, c0, e, by have hq := hc0 0 _ rfl; rwa [show (Kd.slice _ d).sz = 1 from rfl, Nat.mul_one, Nat.add_zero] at hq, l0, g0⟩
/-- Where the first element of which p holds lies; -1. -/
def fidx {α : Type} (p : α → Bool) (l : List α) : Int := if l.any p = true then (l.findIdx p : Int) else -1
theorem fidx_ge {α : Type} (p : α → Bool) (l : List α) : decide (0 ≤ fidx p l) = l.any p := by
  unfold fidx
  by_cases h : l.any p = true
  · rw [if_pos h, h]; simp
  · rw [if_neg h]; simp at h ⊢; exact h
theorem fidx_hit {α : Type} (p : α → Bool) (l : List α) (z : α) (k : Nat) (hk : k < l.length) (hp : p (l.getD k z) = true) (hb : ∀ j, j < k → p (l.getD j z) = false) : fidx p l = k := by
  have e : ∀ j (hj : j < l.length), l.getD j z = l[j] := fun j hj => by simp [List.getD_eq_getElem?_getD, hj]
  have ha : l.any p = true := List.any_eq_true.2 ⟨l[k], List.getElem_mem hk, by rw [← e k hk]; exact hp⟩
  unfold fidx
  rw [if_pos ha, (List.findIdx_eq hk).2 ⟨by rw [← e k hk]; exact hp, fun j hj => by rw [← e j (by omega)]; exact hb j hj⟩]
theorem fidx_miss {α : Type} (p : α → Bool) (l : List α) (z : α) (hb : ∀ j, j < l.length → p (l.getD j z) = false) : fidx p l = -1 := by
  unfold fidx
  rw [if_neg]
  intro ha
  obtain ⟨x, hx, hp⟩ := List.any_eq_true.1 ha
  obtain ⟨j, hj, rfl⟩ := List.getElem_of_mem hx
  have := hb j hj
  rw [show l.getD j z = l[j] from by simp [List.getD_eq_getElem?_getD, hj]] at this
  rw [this] at hp
  cases hp
theorem wrap_step {x : Int} (h0 : -1 ≤ x) (h1 : x ≤ 9223372036854775806) : Value.int .i64 (wrap64 (x + 1)) = .int .i64 (x + 1) := by
  have : wrap64 (x + 1) = x + 1 := by unfold wrap64; omega
  rw [this]
/-- What a predicate on rows of bytes gives, whatever the world. -/
def PredRow (g : Nat) (p : List Int → Bool) : Prop :=
  ∀ (W : World) (A : Option Addr) (c : Nat) (l : List Int), (Kd.int .u8).C W A l.length l → l.length ≤ c → Calls Try.prog g #[.slice A l.length c] W fun e w' => e = .returned (.bool (p l)) ∧ Drawn0 W w'
set_option maxHeartbeats 8000000 in
set_option maxRecDepth 100000 in
theorem idx_rows (g : Nat) (p : List Int → Bool) (eg : ∀ args w, (callFunc g args).run Try.prog w = .ok (.enter g args) w) (hp : PredRow g p) (A0 : Option Addr) (c0 : Nat) (l0 : List (List Int)) (w : World)
    (hr0 : Kd.C (Kd.slice 5 (Kd.int .u8)) w A0 l0.length l0) (hc0 : l0.length ≤ c0) :
    Calls Try.prog 71 #[.slice A0 l0.length c0, .func (.func g) #[] #[]] w fun e w' => e = .returned (.int .i64 (fidx p l0)) ∧ Drawn0 w w' := by
  have HR0 := Aside0.mk hr0
  have HC0 := Aside0.mk hc0
  have HP := Aside0.mk hp
  have HM := Aside0.mk hr0.2.1
  clear hr0 hc0 hp
  go_enter Try.func71, Try.ntmps71
  go_wp2
  go_loopg [5, 8] l0.length (fun kq _ v8 w' => ∃ (x8 : Int), v8 = .int .i64 x8 ∧ Aside0 (0 ≤ x8 ∧ x8 ≤ l0.length ∧ l0.length - x8.toNat ≤ kq ∧ ∀ j, j < x8.toNat → p (l0.getD j []) = false) ∧ Drawn0 w w')
  case atStart => exact ⟨0, rfl, ⟨by omega, by omega, by omega, fun j hj => by simp at hj⟩, by repeat (first | exact Drawn0.refl _ | apply Drawn0.step)⟩
  case round =>
    obtain ⟨x8, rfl, HI, ⟨m1, rfl⟩⟩ := hrel
    by_cases c2 : x8 < (l0.length : Int)
    · have c2b0 : decide (x8 < (l0.length : Int)) = true := decide_eq_true c2
      have p1 : 0 ≤ x8 := HI.out.1
      obtain ⟨ad, A1, c1, e1, hx1, hl1, hi1⟩ := at_row HR0.out x8 p1 c2
      cases e1
      have HL1 := Aside0.mk hl1
      have HI1 := Aside0.mk hi1
      have p2 : x8 ≤ 9223372036854775806 := by have := HM.out; omega
      have HT := Aside0.mk c2
      clear hl1 hi1
      replace c2 := eq_true c2
      replace p1 := eq_true p1
      have hcall := fun (m : Nat) => HP.out (w.drewN m) A1 c1 (rdRow l0 x8) (Kd.C_below HI1.out (pw_below_drewN (Below.refl _ _) m)) HL1.out
      cases hq : p (rdRow l0 x8) with
      | true =>
        have HQ := Aside0.mk hq
        rw [hq] at hcall
        clear hq
        have HCALL := Aside0.mk hcall
        clear hcall
        go_wp2_with (go_at_fn g; refine (HCALL.out _).mono ?_; rintro e w' ⟨rfl, ⟨m2, rfl⟩⟩)
        go_ret
        have h8 : x8 = (x8.toNat : Int) := by have := HI.out.1; omega
        refine ⟨?_, by repeat (first | exact Drawn0.refl _ | apply Drawn0.step)⟩
        show Ending.returned (.int .i64 x8) = .returned (.int .i64 (fidx p l0))
        rw [fidx_hit p l0 [] x8.toNat (by have := HT.out; omega) HQ.out HI.out.2.2.2, ← h8]
      | false =>
        have HQ := Aside0.mk hq
        rw [hq] at hcall
        clear hq
        have HCALL := Aside0.mk hcall
        clear hcall
        go_wp2_with (go_at_fn g; refine (HCALL.out _).mono ?_; rintro e w' ⟨rfl, ⟨m2, rfl⟩⟩)
        go_roundg (l0.length - (x8.toNat + 1))
        case measure => have := HT.out; have := HI.out.1; have := HI.out.2.2.1; omega
        case rel =>
          refine ⟨x8 + 1, wrap_step (by have := HI.out.1; omega) p2, ⟨by have := HI.out.1; omega, by have := HT.out; omega, by have := HI.out.1; omega, fun j hj => ?_⟩, by repeat (first | exact Drawn0.refl _ | apply Drawn0.step)⟩
          by_cases ej : j = x8.toNat
          · subst ej; exact HQ.out
          · exact HI.out.2.2.2 j (by have := HI.out.1; omega)
    · have c2b0 : decide (x8 < (l0.length : Int)) = false := decide_eq_false c2
      have HT := Aside0.mk c2
      clear c2
      go_wp2
      go_ret
      refine ⟨?_, by repeat (first | exact Drawn0.refl _ | apply Drawn0.step)⟩
      show Ending.returned (.int .i64 (-1)) = .returned (.int .i64 (fidx p l0))
      rw [fidx_miss p l0 [] (fun j hj => HI.out.2.2.2 j (by have := HT.out; have := HI.out.2.1; omega))]
set_option maxHeartbeats 8000000 in
set_option maxRecDepth 100000 in
theorem contains_rows (g : Nat) (p : List Int → Bool) (eg : ∀ args w, (callFunc g args).run Try.prog w = .ok (.enter g args) w) (hp : PredRow g p) (A0 : Option Addr) (c0 : Nat) (l0 : List (List Int)) (w : World)
    (hr0 : Kd.C (Kd.slice 5 (Kd.int .u8)) w A0 l0.length l0) (hc0 : l0.length ≤ c0) :
    Calls Try.prog 66 #[.slice A0 l0.length c0, .func (.func g) #[] #[]] w fun e w' => e = .returned (.bool (l0.any p)) ∧ Drawn0 w w' := by
  have HCALL := Aside0.mk (idx_rows g p eg hp A0 c0 l0 w hr0 hc0)
  clear hp hr0 hc0
  rw [← fidx_ge p l0]
  generalize fidx p l0 = n at HCALL ⊢
  go_enter Try.func66, Try.ntmps66
  go_wp2_with (go_at_call 71; refine (HCALL.out).mono ?_; rintro e w' ⟨rfl, ⟨m1, rfl⟩⟩)
  go_ret
  exact ⟨by first | rfl | (simp; done), by repeat (first | exact Drawn0.refl _ | apply Drawn0.step)⟩

/-! ### A range over a function whose body never leaves: N rounds; what the iterator itself does to the world is Step; what it needs kept is Rd -/
def roundOut (B : Nat) (p : World → Prop) (W : World) : Exit → Act → World → Prop
  | .normal, _, W' => KeepsFrom B W W' ∧ p W'
  | .ret, _, _ => False
  | .exit _, _, _ => False
  | .goto _, _, _ => False
  | .panic _, _, _ => False
  | .outgrown, _, _ => False
theorem range_all {F : Fence} {n : Nat} {P : Program} {g : Operand} {ps : Array Tmp} {assign body : Code} {Q : Exit → Act → World → Prop} {a : Act} {w : World}
    (hro : F.round = none) (h1 : 1 ≤ n) {gf : Nat} {lb : Array Value} (hg : a.eval g = .func (.func gf) #[] lb) (hFg : F.fn gf) (eg : ∀ args w, (callFunc gf args).run P w = .ok (.enter gf args) w)
    (N : Nat) (encs : Nat → Array Value) (hps : ∀ i, (encs i).size = ps.size) (Step : World → World → Prop) (Rd : Nat → World → Prop)
    (hseq : ∀ (l : Nat) (J : Nat → World → Prop) (W : World), (∀ i A A', J i A → Step A A' → J i A') →
      (∀ i A, i < N → J i A → Rd i A → YieldAt F (n - 1 - 1) P l (encs i) A fun e A' => e = .returned (.bool true) ∧ J (i + 1) A' ∧ Rd i A') →
      J 0 W → Rd 0 W → CallsIn F (n - 1) P gf (#[.func (.yield l) #[] #[]] ++ lb) W fun e A' => (∃ v, e = .returned v) ∧ J N A')
    (hStep : ∀ A A', Step A A' → ∀ (k : Nat) (o : Obj), A.heap[k]? = some o → o.isCells = false → A'.heap[k]? = some o)
    (I : Nat → World → Prop) (hI : OwnFrom w.heap.size I) (hRd : OwnFrom w.heap.size Rd) (hIs : ∀ i A A', I i A → Step A A' → I i A') (h0 : I 0 w) (hr0 : Rd 0 w) (a₁ : Nat → Act)
    (hassign : ∀ (l i : Nat) (W : World) (K : Act → World → Prop), K (a₁ i) W →
      assign.wpIn (F.inRound l) (n - 1 - 1) P (Exit.then K (fun _ _ _ => False)) { tmps := (ps.zip (encs i)).foldl (fun t (p, v) => t.setIfInBounds p v) a.tmps, defers := [] } W)
    (hbody : ∀ (l i : Nat) (W : World), i < N → I i W → Rd i W → body.wpIn (F.inRound l) (n - 1 - 1) P (roundOut w.heap.size (fun W' => I (i + 1) W' ∧ Rd i W') W) (a₁ i) W)
    (hdone : ∀ (D : Nat) (W : World), w.heap.size ≤ D → I N W → W.heap[D]? = some (.deferred (some [])) → Q .normal { a with defers := { target := .collected D, args := #[] } :: a.defers } W) :
    (Code.rangeFunc g ps assign body).wpIn F n P Q a w := by
  refine wpIn_rangeFunc ?_
  intro fn hfn
  rw [hro]
  obtain ⟨rec, hrec⟩ : ∃ rec : LoopState → Option Code → Loop, rec = fun st pe => { state := st, pending := pe, fn, tmps := a.tmps, params := ps, assign, body, defers := w.heap.size } := ⟨_, rfl⟩
  obtain ⟨W1, hW1⟩ : ∃ W1, (w.alloc (.deferred (some []))).alloc (.loop (rec .ready none)) = W1 := ⟨_, rfl⟩
  have hL1 : W1.heap[w.heap.size + 1]? = some (.loop (rec .ready none)) := by
    rw [← hW1]
    have := World.alloc_heap_new (w.alloc (.deferred (some []))) (.loop (rec .ready none))
    rwa [World.size_alloc] at this
  have hK1 : W1.heap[w.heap.size]? = some (.deferred (some [])) := by
    rw [← hW1]
    exact (Below.heap_alloc _ _ _ (by simp)).trans (World.alloc_heap_new w _)
  have hI1 : I 0 W1 := by rw [← hW1]; exact hI.alloc _ (hI.alloc _ h0)
  have hR1 : Rd 0 W1 := by rw [← hW1]; exact hRd.alloc _ (hRd.alloc _ hr0)
  refine ⟨w.heap.size + 1, [{ target := .collected w.heap.size, args := #[] }], W1, { target := .fn (.func gf) lb, args := #[.func (.yield (w.heap.size + 1)) #[] #[]] }, W1, gf,
    #[.func (.yield (w.heap.size + 1)) #[] #[]] ++ lb, W1, ?_, ?_, ?_, ?_, fun _ => h1, ?_⟩
  · rw [← hW1, hrec]; exact run_enterLoop_outer _ _ _ _ _
  · simp only [resolve, hg]
    simp [go_sem]
  · intro f' hf'
    simp [Target.leads] at hf'
    subst hf'
    exact hFg
  · simp [invoke, go_sem, eg]
  · refine (hseq (w.heap.size + 1) (fun i W => I i W ∧ W.heap[w.heap.size + 1]? = some (.loop (rec .ready none)) ∧ W.heap[w.heap.size]? = some (.deferred (some []))) W1
      (fun i A A' hJ hs => ⟨hIs i A A' hJ.1 hs, hStep A A' hs _ _ hJ.2.1 rfl, hStep A A' hs _ _ hJ.2.2 rfl⟩) ?_ ⟨hI1, hL1, hK1⟩ hR1).mono ?_
    · rintro i W hlt ⟨hi, hl, hk⟩ hrd
      have hsz : w.heap.size + 1 < W.heap.size := (Array.getElem?_eq_some_iff.1 hl).1
      have hy := run_yield (P := P) (args := encs i) hl (by rw [hrec]; exact hps i)
      rw [hrec] at hy
      refine ⟨fn, _, assign, body, hy, roundIn_of_wpIn hfn (hassign _ i W _ ⟨_, run_beginRound hl (by rw [hrec]), ?_⟩)⟩
      have hl2 : (W.putObj (w.heap.size + 1) (.loop { rec .ready none with state := .busy })).heap[w.heap.size + 1]? = some (.loop { rec .ready none with state := .busy }) := World.putObj_heap_same hsz
      have hk2 : (W.putObj (w.heap.size + 1) (.loop { rec .ready none with state := .busy })).heap[w.heap.size]? = some (.deferred (some [])) := (World.putObj_heap_other (by omega)).trans hk
      refine wpIn_mono (hbody _ i _ hlt (hI.putObj _ hi (by omega) hl rfl) (hRd.putObj _ hrd (by omega) hl rfl)) ?_
      rintro e a3 W3 hp
      cases e with
      | normal =>
        obtain ⟨hk3, hi3, hrd3⟩ := hp
        have hl3 := hk3.same _ _ (by omega) hl2 rfl
        have hr := run_endRound (P := P) none hl3
        rw [hrec] at hr hl3
        refine ⟨_, _, hr, rfl, ⟨hI.putObj _ hi3 (by omega) hl3 rfl, ?_, ?_⟩, hRd.putObj _ hrd3 (by omega) hl3 rfl⟩
        · rw [hrec]; exact World.putObj_heap_same (Array.getElem?_eq_some_iff.1 hl3).1
        · exact (World.putObj_heap_other (by omega)).trans (hk3.same _ _ (Nat.le_refl _) hk2 rfl)
      | ret => exact hp.elim
      | exit id => exact hp.elim
      | goto t => exact hp.elim
      | panic ch => exact hp.elim
      | outgrown => exact hp.elim
    · rintro e W2 ⟨⟨v, rfl⟩, hi, hl, hk⟩
      refine ⟨none, _, by have := run_endLoop (P := P) hl (by rw [hrec]; simp); rw [hrec] at this; exact this, ?_⟩
      exact hdone _ _ (Nat.le_refl _) (hI.putObj _ hi (by omega) hl rfl) ((World.putObj_heap_other (by omega)).trans hk)
/-! #### in a round: an append, a copy; what stands over a turn of what is no cells -/
theorem appendIn {F : Fence} {n : Nat} {P : Program} {ops : Array Oper} {rest : List Oper} {o : Oper} {a : Act} {Q : Exit → Act → World → Prop} {α : Type} (d : Kd α) {w0 W : World} (base : Nat) (hgd : o.guard = none) (s x : Operand) (t e : TypeId) (z : Value) (bytes : Nat)
    (ho : o.op = .call { callee := .builtin .append, args := #[s, x], argTypes := #[t, t] })
    (ht : P.underlying t = some (.slice e)) (hinfo : (P.info? e).map (fun i => (i.zero, i.size, i.bytes)) = some (some z, d.sz, bytes)) (hz : z.cells.size = d.sz) (hs0 : 0 < d.sz) (hb0 : 0 < bytes)
    (v : Value) (xs : List α) (p : α) (cs : List Value) (ok okp : Nat → Prop) (hs : a.eval s = v) (hx : a.eval x = .slice (some ⟨W.heap.size, 0, none⟩) 1 1) (hp : d.M W base okp p cs) (hokp : ∀ k, okp k → ok k ∧ some k ≠ v.ownBlock) (hfresh : ∀ k, W.heap.size ≤ k → ok k)
    (HO : Kd.S d e W base (fun k => ok k ∧ ¬ okp k) v xs) (HB : Below base w0 W) (hbase : base ≤ W.heap.size) (hl : (xs.length + 1) * bytes ≤ 140737488355328)
    (h : ∀ v1 w1, Kd.S d e w1 base ok v1 (xs ++ [p]) → Below base w0 w1 → W.grownBy w1 v.ownBlock → wpListIn F n P ops Q rest (a.put o.dst v1) w1) :
    wpListIn F n P ops Q (o :: rest) a (W.alloc (.cells cs.toArray e)) := by
  obtain ⟨f, hf, hR⟩ := Kd.S_tag HO xs.length okp (fun _ hk h2 => h2.2 hk)
  obtain ⟨h0, inner, hown, hr⟩ := hR
  obtain ⟨i0, hi, hzz⟩ := Option.map_eq_some_iff.1 hinfo
  simp only [Prod.mk.injEq] at hzz
  obtain ⟨hz0, hz1, hz2⟩ := hzz
  have hxl : xs.zipIdx.length = xs.length := List.length_zipIdx
  have hlen : xs.zipIdx.length + 1 ≤ 140737488355328 := by rw [hxl]; exact Nat.le_trans (Nat.le_mul_of_pos_right _ hb0) hl
  refine wpListIn_append_own_at (w := W.alloc (.cells cs.toArray e)) hgd s x t ho base e i0 z d.sz bytes ht hi hz0 hz1 hz2 hz hs0 v xs.zipIdx.length inner hs (hown.alloc _) ⟨W.heap.size, 0, none⟩ 1 1 cs hx (by rw [d.K_len (d.K_of_M hp)]; simp)
    (by simpa using World.news_of_block (cs := cs.toArray) (t := e) (fr := (0, 0)) (heap_alloc_new W (.cells cs.toArray e))) (d.K_one (d.K_of_M hp)) (by simp only [maxLen]; omega) (by rw [hxl]; exact hl) (by simp; omega) ?_
  intro v1 w1 hown1 hg _ hat0
  have hB1 : Below base w0 w1 := (HB.alloc hbase _).grown hg (by simp; omega) (own_base hown)
  have hg1 : W.grownBy w1 v.ownBlock := World.grownBy.trans (World.grownBy_alloc W _ _) hg
  have hat : v1.ownBlock = v.ownBlock ∨ ∃ b, v1.ownBlock = some b ∧ W.heap.size ≤ b := by
    rcases hat0 with h1 | h1
    · exact .inl h1
    · exact .inr ⟨_, h1, by simp⟩
  refine h v1 w1 ⟨f, ?_⟩ hB1 hg1
  rw [Kd.zip_snoc]
  exact Kd.R_appended (d := Kd.tag f d) (p := (p, xs.length)) (okp := okp) (fun k hk => (h0 k hk).1) (hr.imp_ (fun _ _ hq => (Kd.tag f d).M_mono (fun k hk => ⟨hk.1.1, hk.2⟩) hq)) (d.M_mono (fun k hk => ⟨hk, hf k hk⟩) hp) hokp hfresh hown1 hg1 hat
theorem copyIn {F : Fence} {n : Nat} {P : Program} {ops : Array Oper} {rest : List Oper} {o : Oper} {a : Act} {Q : Exit → Act → World → Prop} {w w' : World} (hgd : o.guard = none) (d s : Operand) (t t' : TypeId)
    (ho : o.op = .call { callee := .builtin .copy, args := #[d, s], argTypes := #[t, t'] }) (v1 v2 r : Value) (hd : a.eval d = v1) (hs : a.eval s = v2) (hrun : (Builtin.copy_ #[t, t'] o.type #[v1, v2]).run P w = .ok r w')
    (h : wpListIn F n P ops Q rest (a.put o.dst r) w') : wpListIn F n P ops Q (o :: rest) a w := by
  refine wpListIn_plain hgd fun K hK => ?_
  unfold Oper.wpIn
  refine ⟨by simp [Oper.about, ho, resolve, Target.leads, Sem.run_pure], ?_⟩
  rw [Oper.semAt_plain F _ _ (by rw [ho]; intro c hc'; cases hc')]
  simp [execOp, ho, resolve, invoke, builtin, hd, hs, hrun, Result.andThen]
  exact hK _ _ h
theorem S_noncells {α : Type} {d : Kd α} {e : Nat} {A B : World} {base : Nat} {ok : Nat → Prop} {v : Value} {xs : List α} {row : Option Nat} (h : Kd.S d e A base ok v xs) (hg : A.grownBy B row) (hr : ∀ r, row = some r → ∃ o : Obj, A.heap[r]? = some o ∧ o.isCells = false) : Kd.S d e B base ok v xs :=
  Kd.S_mono (Kd.S_grown (Kd.S_bound h) hg (fun k hk he => by
    obtain ⟨_, _, _, q, _, cells, hc⟩ := hk
    obtain ⟨o, ho, hn⟩ := hr k he.symm
    rw [hc] at ho
    cases ho
    cases hn)) (fun _ hk => hk.1)
theorem boxed_noncells {A B : World} {g t : Nat} {v : Value} {row : Option Nat} (h : Boxed A g t v) (hg : A.grownBy B row) (hr : ∀ r, row = some r → ∃ o : Obj, A.heap[r]? = some o ∧ o.isCells = false) : Boxed B g t v :=
  h.kept hg (fun he => by
    obtain ⟨o, ho, hn⟩ := hr g he.symm
    rw [show A.heap[g]? = _ from h] at ho
    cases ho
    cases hn)
theorem setRow_alloc (W : World) (c c' : Array Value) (t : TypeId) : (W.alloc (.cells c t)).setRow W.heap.size c' = W.alloc (.cells c' t) := by
  unfold World.setRow World.alloc
  congr 1
  apply Array.ext_getElem?
  intro i
  rw [Array.getElem?_modify]
  rcases Nat.lt_trichotomy i W.heap.size with h | h | h
  · simp [Array.getElem?_push, Nat.ne_of_gt h, Nat.ne_of_lt h]
  · subst h; simp
  · simp [Array.getElem?_push, Nat.ne_of_lt h, Nat.ne_of_gt h]

end Go.Proofs.Ytpbfeegfkiegeaa.M
