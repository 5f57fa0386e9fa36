/- Part of a claim: what some functions of the program compute, each with its contract; no condition of its own. Written by a program of this workplace (gen.py, over the print of the kit) and by hand. -/
import Derived.Test.YtpbfeegfkiegeaaM0
namespace Go.Proofs.Ytpbfeegfkiegeaa.M
open Go.RowKit Go.Proofs.YtpbfeegfkiegeaaW.PrintWords Go.Proofs.YtpbfeegfkiegeaaW.PrintLast Go.Proofs.YtpbfeegfkiegeaaW.PrintMore
attribute [local go_sem] max2_int min2_int max_two min_two max_three min_three max_four min_four   -- for this text's walks alone
set_option linter.unusedVariables false
set_option linter.unusedSimpArgs false

theorem eql_nil_in {P : Program} (w : World) (d : Nat) (t e : TypeId) (a : Option Addr) (n c n' c' : Nat) (h : P.underlying t = some (.slice e)) :
    (Op.equalIn (d + 1) t (.slice a n c) (.slice none n' c')).run P w = .ok a.isNone w := by
  cases a <;> simp [Op.equalIn, run_underlying h]
theorem eql_nil {P : Program} (w : World) (t e : TypeId) (a : Option Addr) (n c n' c' : Nat) (h : P.underlying t = some (.slice e)) :
    (binOp .eql t (.slice a n c) (.slice none n' c')).run P w = .ok (.bool a.isNone) w := by
  simp only [binOp]
  simp [Op.equal, Op.maxDepth, eql_nil_in w 9999 t e a n c n' c' h]
theorem made_none (w : World) : (Kd.int .u8).R 5 (w.alloc (.cells #[] 5)) w.heap.size (fun _ => True) (.slice (some ⟨w.heap.size, 0, none⟩) 0 0) [] :=
  Kd.R_of_own (enc := Value.int .u8) (h1 := fun _ => rfl) (World.ownsRow_made w #[] 0 (Nat.le_refl _) (Nat.zero_le _) rfl) (fun _ _ => trivial)
set_option maxHeartbeats 8000000 in
set_option maxRecDepth 100000 in
theorem clone_bytes (ad : Addr) (c : Nat) (l : List Int) (w : World) (hr : Kd.C (Kd.int .u8) w (some ad) l.length l) (hl : l.length ≤ 1000000) :
    Calls Try.prog 55 #[.slice (some ad) l.length c] w fun e w' => ∃ v, e = .returned v ∧ (Kd.int .u8).R 5 w' w.heap.size (fun _ => True) v l ∧ Below w.heap.size w w' := by
  have HB := Aside0.mk ((Below.refl w.heap.size w).alloc (Nat.le_refl _) (.cells #[] 5))
  have HR := Aside0.mk (Kd.C_below hr HB.out)
  have HL := Aside0.mk hl
  have HM := Aside0.mk (made_none w)
  have q22 : ∀ (w : World) (a : Option Addr) (n c n' c' : Nat), (binOp .eql 25 (.slice a n c) (.slice none n' c')).run Try.prog w = .ok (.bool a.isNone) w := fun w a n c n' c' => eql_nil w _ _ a n c n' c' Try.underlying25
  clear hr hl
  go_enter Try.func55, Try.ntmps55
  go_wp2_with (((with_reducible refine gate_builtin (b := .append) (xs := #[.tmp 5, .tmp 6]) rfl ?_); at_builtin; refine Kd.R_append_rows (Kd.int .u8) (w0 := w) w.heap.size rfl (.tmp 5) (.tmp 6) 25 5 (.int .u8 0) 1 rfl Try.underlying25 info5 rfl (by decide) (by omega) _ [] l _ _ _ (fun _ => True) (fun _ => False) rfl rfl HM.out HR.out (fun _ _ h => h) (fun _ h => h.elim) (fun _ _ => trivial) HB.out (below_size HB.out) (by have := HL.out; simp; omega) ?_; intro v1 w1 ho hb hg hat; have HO' := Aside0.mk ho; have HB' := Aside0.mk hb; clear ho hb hg hat))
  go_ret
  exact ⟨_, rfl, HO'.out, HB'.out⟩

theorem append_run {P : Program} {α : Type} (d : Kd α) {w0 W : World} (base : Nat) (t ty e : TypeId) (z : Value) (bytes : Nat)
    (ht : P.underlying t = some (.slice e)) (hinfo : (P.info? e).map (fun i => (i.zero, i.size, i.bytes)) = some (some z, d.sz, bytes)) (hz : z.cells.size = d.sz) (hs0 : 0 < d.sz) (hb0 : 0 < bytes)
    (v : Value) (xs : List α) (p : α) (cs : List Value) (ok okp : Nat → Prop) (hp : d.M W base okp p cs) (hokp : ∀ k, okp k → ok k ∧ some k ≠ v.ownBlock) (hfresh : ∀ k, W.heap.size ≤ k → ok k)
    (HO : Kd.S d e W base (fun k => ok k ∧ ¬ okp k) v xs) (HB : Below base w0 W) (hbase : base ≤ W.heap.size) (hl : (xs.length + 1) * bytes ≤ 140737488355328) :
    ∃ v1 w1, (Builtin.append_ #[t, t] ty #[v, .slice (some ⟨W.heap.size, 0, none⟩) 1 1]).run P (W.alloc (.cells cs.toArray e)) = .ok v1 w1 ∧ Kd.S d e w1 base ok v1 (xs ++ [p]) ∧ Below base w0 w1 ∧ W.grownBy w1 v.ownBlock := by
  obtain ⟨f, hf, hR⟩ := Kd.S_tag HO xs.length okp (fun _ hk h2 => h2.2 hk)
  obtain ⟨h0, inner, hown, hr⟩ := hR
  obtain ⟨i0, hi, hzz⟩ := Option.map_eq_some_iff.1 hinfo
  simp only [Prod.mk.injEq] at hzz
  obtain ⟨hz0, hz1, hz2⟩ := hzz
  have hxl : xs.zipIdx.length = xs.length := List.length_zipIdx
  have hlen : xs.zipIdx.length + 1 ≤ 140737488355328 := by rw [hxl]; exact Nat.le_trans (Nat.le_mul_of_pos_right _ hb0) hl
  obtain ⟨v1, w1, hrun, hown1, hg, _, hat0⟩ := run_append_own_at (P := P) (W.alloc (.cells cs.toArray e)) base t ty e i0 z d.sz bytes ht hi hz0 hz1 hz2 hz hs0 v xs.zipIdx.length inner (hown.alloc _) ⟨W.heap.size, 0, none⟩ 1 1 cs (by rw [d.K_len (d.K_of_M hp)]; simp)
    (by simpa using World.news_of_block (cs := cs.toArray) (t := e) (fr := (0, 0)) (heap_alloc_new W (.cells cs.toArray e))) (d.K_one (d.K_of_M hp)) (by simp only [maxLen]; omega) (by rw [hxl]; exact hl) (by simp; omega)
  have hB1 : Below base w0 w1 := (HB.alloc hbase _).grown hg (by simp; omega) (own_base hown)
  have hg1 : W.grownBy w1 v.ownBlock := World.grownBy.trans (World.grownBy_alloc W _ _) hg
  have hat : v1.ownBlock = v.ownBlock ∨ ∃ b, v1.ownBlock = some b ∧ W.heap.size ≤ b := by
    rcases hat0 with h1 | h1
    · exact .inl h1
    · exact .inr ⟨_, h1, by simp⟩
  refine ⟨v1, w1, hrun, ⟨f, ?_⟩, hB1, hg1⟩
  rw [Kd.zip_snoc]
  exact Kd.R_appended (d := Kd.tag f d) (p := (p, xs.length)) (okp := okp) (fun k hk => (h0 k hk).1) (hr.imp_ (fun _ _ hq => (Kd.tag f d).M_mono (fun k hk => ⟨hk.1.1, hk.2⟩) hq)) (d.M_mono (fun k hk => ⟨hk, hf k hk⟩) hp) hokp hfresh hown1 hg1 hat
def marks (ds : List Nat) : List Deferred := ds.map fun D => { target := .collected D, args := #[] }
theorem made_none_rows (w : World) : (Kd.raw 1).R 25 (w.alloc (.cells #[] 25)) w.heap.size (fun _ => True) (.slice (some ⟨w.heap.size, 0, none⟩) 0 0) [] :=
  ⟨fun _ _ => trivial, [], World.ownsRow_made w #[] 0 (Nat.le_refl _) (Nat.zero_le _) rfl, Reps.none _ _⟩
def HalfS (W : World) (old base : Nat) (v : Value) (i : Nat) (l : List (List Int)) : Prop :=
  ∃ (f : Nat → Nat) (inner : List Value), (∀ k, v.ownBlock = some k → base ≤ k) ∧ W.ownsRow base 25 1 v l.length inner ∧ inner.length = l.length ∧
    ∀ (j : Nat) (x : List Int) (u : Value), l[j]? = some x → inner[j]? = some u → (j < i → (Kd.slice 5 (Kd.int .u8)).M W base (fun k => some k ≠ v.ownBlock ∧ f k = j) x [u]) ∧ (i ≤ j → Kd.FK (Kd.slice 5 (Kd.int .u8)) W (fun k => k < old) x [u])
theorem HalfS.done {W : World} {old base : Nat} {v : Value} {l : List (List Int)} (h : HalfS W old base v l.length l) : Kd.S (Kd.slice 5 (Kd.int .u8)) 25 W base (fun _ => True) v l := by
  obtain ⟨f, inner, hb, ho, hl, hx⟩ := h
  refine ⟨f, fun _ _ => trivial, inner, by rw [List.length_zipIdx]; exact ho, by rw [List.length_zipIdx, hl]; exact (Nat.mul_one _).symm, fun j p hj => ?_⟩
  rw [List.getElem?_zipIdx] at hj
  obtain ⟨x, hx0, rfl⟩ := Option.map_eq_some_iff.1 hj
  have hjl : j < l.length := (List.getElem?_eq_some_iff.1 hx0).1
  have h1 := (hx j x inner[j] hx0 (List.getElem?_eq_getElem (by omega))).1 hjl
  show (Kd.slice 5 (Kd.int .u8)).M W base (fun k => (True ∧ some k ≠ v.ownBlock) ∧ f k = 0 + j) x ((inner.drop (j * 1)).take 1)
  rw [Nat.mul_one, List.drop_eq_getElem_cons (by omega : j < inner.length)]
  exact Kd.M_mono _ (fun k hk => ⟨⟨trivial, hk.1⟩, by rw [Nat.zero_add]; exact hk.2⟩) h1
theorem HalfS.slice {W : World} {old base : Nat} {v : Value} {i : Nat} {l : List (List Int)} (h : HalfS W old base v i l) : ∃ A c, v = .slice A l.length c := by
  obtain ⟨f, inner, hb, ho, hl, hx⟩ := h
  rcases ho.2 with ⟨rfl, h0⟩ | ⟨g, cap, cur, rfl, _⟩
  · exact ⟨none, 0, by rw [h0]⟩
  · exact ⟨_, cap, rfl⟩
theorem HalfS.form {W : World} {old base : Nat} {v : Value} {i : Nat} {l : List (List Int)} (h : HalfS W old base v i l) (h0 : 0 < l.length) : ∃ g cap, v = .slice (some ⟨g, 0, none⟩) l.length cap ∧ base ≤ g ∧ g < W.heap.size ∧ ∃ cells, W.heap[g]? = some (.cells cells 25 (0, 0)) := by
  obtain ⟨f, inner, hb, ho, hl, hx⟩ := h
  rcases ho.2 with ⟨rfl, h0⟩ | ⟨g, cap, cur, rfl, hg, hh, _⟩
  · omega
  · exact ⟨g, cap, rfl, hg, blk_lt hh, cur, hh⟩
theorem HalfS.below {W W1 : World} {old base : Nat} {v : Value} {i : Nat} {l : List (List Int)} (h : HalfS W old base v i l) (hB : Below W.heap.size W W1) : HalfS W1 old base v i l := by
  obtain ⟨f, inner, hb, ho, hl, hx⟩ := h
  exact ⟨f, inner, hb, pw_own_below ho hB, hl, fun j x u h1 h2 => ⟨fun h3 => Kd.M_below ((hx j x u h1 h2).1 h3) hB, fun h3 => Kd.FK_below ((hx j x u h1 h2).2 h3) hB⟩⟩
theorem HalfS.far {W : World} {old base : Nat} {v : Value} {i : Nat} {l : List (List Int)} (h : HalfS W old base v i l) (p : Addr) (u : Value) (hp : old ≤ p.block) (hp2 : some p.block ≠ v.ownBlock) (hp3 : ∃ t cells, W.heap[p.block]? = some (.cells cells t (0, 0)) ∧ t ≠ 5) : HalfS (W.setCell p u) old base v i l := by
  obtain ⟨f, inner, hb, ho, hl, hx⟩ := h
  refine ⟨f, inner, hb, own_setCell ho hp2 u, hl, fun j x z h1 h2 => ⟨fun h3 => ?_, fun h3 => Kd.FK_step ((hx j x z h1 h2).2 h3) (fun k hk _ => Below.heap_setCell W p u k (by omega))⟩⟩
  obtain ⟨t, cells, hc, ht⟩ := hp3
  have h4 := Kd.M_types ((hx j x z h1 h2).1 h3) hc (fun q hq => by
    have hq' : q = 5 := by simpa [Kd.slice, Kd.int, Kd.scalar] using hq
    subst hq'
    exact Ne.symm ht)
  exact Kd.M_mono _ (fun _ hk => hk.1) (Kd.M_far h4 (fun k hk => hk.2) u)
theorem HalfS.get {W : World} {old base g n cap : Nat} {i : Nat} {l : List (List Int)} (h : HalfS W old base (.slice (some ⟨g, 0, none⟩) n cap) i l) (hi : i < l.length) :
    ∃ A c, W.cell? ⟨g, i, none⟩ = some (.slice A l[i].length c) ∧ W.frozen? ⟨g, i, none⟩ = false ∧ l[i].length ≤ c ∧ Kd.F (Kd.int .u8) W (fun k => k < old) A l[i].length l[i] := by
  obtain ⟨f, inner, hb, ho, hl, hx⟩ := h
  have h1 := (hx i l[i] inner[i] (List.getElem?_eq_getElem hi) (List.getElem?_eq_getElem (by omega))).2 (Nat.le_refl _)
  obtain ⟨A, c, he, hc, hF⟩ := Kd.FK_slice_open h1
  injection he with he _
  refine ⟨A, c, ?_, ?_, hc, hF⟩
  · rw [← he]
    have h9 := ho.cells (g := g) rfl i inner[i] (List.getElem?_eq_getElem (by omega))
    rwa [add_plain] at h9
  · rcases ho.2 with ⟨hv, _⟩ | ⟨g', cap', cur, hv, _, hh, _⟩
    · cases hv
    · injection hv with hv _ _
      injection hv with hv
      injection hv with hv _ _
      subst hv
      exact blk_frozen hh i
theorem HalfS.step {W W1 : World} {old base g n cap : Nat} {i : Nat} {l : List (List Int)} {x : List Int} {u : Value} (h : HalfS W old base (.slice (some ⟨g, 0, none⟩) n cap) i l) (hx : l[i]? = some x) (hob : old ≤ base) (hbase : base ≤ W.heap.size) (hB : Below W.heap.size W W1)
    (hu : (Kd.int .u8).R 5 W1 W.heap.size (fun _ => True) u x) : HalfS (W1.setCell ⟨g, i, none⟩ u) old base (.slice (some ⟨g, 0, none⟩) n cap) (i + 1) l := by
  obtain ⟨f, inner, hb, ho, hl, hxs⟩ := h
  have hgo : (Value.slice (some ⟨g, 0, none⟩) n cap).ownBlock = some g := rfl
  have hglt : g < W.heap.size := own_lt ho g hgo
  have hil : i < l.length := (List.getElem?_eq_some_iff.1 hx).1
  refine ⟨fun k => if k < W.heap.size then f k else i, inner.set i u, hb, ?_, by rw [List.length_set]; exact hl, fun j y z hy hz => ?_⟩
  · have ho1 := pw_own_below ho hB
    obtain ⟨h1, h2⟩ := ho1
    refine ⟨by rw [List.length_set]; exact h1, ?_⟩
    rcases h2 with ⟨hv, _⟩ | ⟨g', cap', cur, hv, hg, hh, hn, hm, hs, ht⟩
    · cases hv
    · injection hv with hv hv2 hv3
      injection hv with hv
      injection hv with hv _ _
      subst hv hv3
      refine .inr ⟨g, cap, cur.setIfInBounds i u, by rw [hv2], hg, blk_set hh i u, hn, hm, by simpa using hs, ?_⟩
      rw [Array.toList_setIfInBounds, List.take_set, ht]
  · by_cases e : j = i
    · subst e
      have hyx : y = x := by rw [hx] at hy; exact (Option.some.inj hy).symm
      have hzu : z = u := by rw [List.getElem?_set_self (by omega)] at hz; exact (Option.some.inj hz).symm
      subst hyx hzu
      refine ⟨fun _ => ?_, fun h3 => by omega⟩
      have h1 := Kd.R_far (p := ⟨g, j, none⟩) (Kd.R_lower (Kd.R_bound hu) hbase) (fun k hk => by have := hk.2.1; show k ≠ g; omega) z
      exact ⟨z, rfl, Kd.R_mono h1 (fun k hk => ⟨fun e => by rw [hgo] at e; injection e with e; have := hk.2.1; omega, if_neg (by have := hk.2.1; omega)⟩)⟩
    · rw [List.getElem?_set_ne (Ne.symm e)] at hz
      have h0 := hxs j y z hy hz
      refine ⟨fun h3 => ?_, fun h3 => ?_⟩
      · have h1 := Kd.M_bound _ (h0.1 (by omega))
        have h2 := Kd.M_move (w1 := W1.setCell ⟨g, i, none⟩ u) _ (fun k hk => by
          have hne : k ≠ g := fun e => hk.1.1 (by rw [e, hgo])
          exact (Below.heap_setCell W1 ⟨g, i, none⟩ u k hne).trans (hB.block k hk.2.2.1)) h1
        exact Kd.M_mono _ (fun k hk => ⟨hk.1.1, by show (if k < W.heap.size then f k else i) = j; rw [if_pos hk.2.2.1]; exact hk.1.2⟩) h2
      · exact Kd.FK_step (h0.2 (by omega)) (fun k hk hlt => by
          have hne : k ≠ g := fun e => by have := hb g hgo; omega
          exact (Below.heap_setCell W1 ⟨g, i, none⟩ u k hne).trans (hB.block k hlt))
set_option maxHeartbeats 8000000 in
set_option maxRecDepth 100000 in
theorem clone_rows (A0 : Option Addr) (c : Nat) (l : List (List Int)) (w : World) (old : Nat) (hr : Kd.F (Kd.slice 5 (Kd.int .u8)) w (fun k => k < old) A0 l.length l) (hold : old ≤ w.heap.size) (hl : l.length ≤ 1000000) :
    Calls Try.prog 58 #[.slice A0 l.length c] w fun e w' => ∃ v, e = .returned v ∧ HalfS w' old w.heap.size v 0 l ∧ Below w.heap.size w w' := by
  have q22 : ∀ (w : World) (a : Option Addr) (n c n' c' : Nat), (binOp .eql 39 (.slice a n c) (.slice none n' c')).run Try.prog w = .ok (.bool a.isNone) w := fun w a n c n' c' => eql_nil w _ _ a n c n' c' Try.underlying39
  cases A0 with
  | none =>
    have h0 : l = [] := by
      rcases Nat.eq_zero_or_pos l.length with h | h
      · exact List.eq_nil_of_length_eq_zero h
      · obtain ⟨ad, he, _⟩ := (Kd.F_now hr).2.2 h
        cases he
    subst h0
    clear hr hl
    go_enter Try.func58, Try.ntmps58
    go_wp2
    go_ret
    exact ⟨_, rfl, ⟨fun _ => 0, [], fun k hk => by simp [Value.ownBlock] at hk, ⟨rfl, .inl ⟨rfl, rfl⟩⟩, rfl, fun j x u hj => by simp at hj⟩, Below.refl _ _⟩
  | some ad =>
    obtain ⟨news, hnl, hnr, hnf⟩ := Kd.reads_raw (Kd.F_rows hr) (fun y c hk => ⟨Kd.K_len _ (Kd.FK_now hk), Kd.K_one _ (Kd.FK_now hk)⟩)
    have HB := Aside0.mk ((Below.refl w.heap.size w).alloc (Nat.le_refl _) (.cells #[] 25))
    have HR := Aside0.mk (show (Kd.raw 1).C (w.alloc (.cells #[] 25)) (some ad) l.length news from Kd.C_alloc (d := Kd.raw 1) hnr (.cells #[] 25))
    have HL := Aside0.mk hl
    have HM := Aside0.mk (made_none_rows w)
    have HN := Aside0.mk hnl
    have HF := Aside0.mk hnf
    clear hr hl hnl hnr hnf
    go_enter Try.func58, Try.ntmps58
    go_wp2_with (((with_reducible refine gate_builtin (b := .append) (xs := #[.tmp 5, .tmp 6]) rfl ?_); at_builtin; refine Kd.R_append_rows (Kd.raw 1) (w0 := w) w.heap.size rfl (.tmp 5) (.tmp 6) 39 25 (.slice none 0 0) 24 rfl Try.underlying39 info25 rfl (by decide) (by omega) _ [] news _ _ _ (fun _ => True) (fun _ => False) rfl rfl HM.out HR.out (fun _ _ h => h) (fun _ h => h.elim) (fun _ _ => trivial) HB.out (below_size HB.out) (by have := HL.out; simp; omega) ?_; intro v1 w1 ho hb hg hat; have HO' := Aside0.mk ho; have HB' := Aside0.mk hb; clear ho hb hg hat))
    go_ret
    refine ⟨_, rfl, ?_, HB'.out⟩
    obtain ⟨_, inner, ho, hrp⟩ := HO'.out
    have hlen : inner.length = l.length := by have h1 := hrp.1; have h2 := HN.out; simp only [List.nil_append, Nat.mul_one, show (Kd.raw 1).sz = 1 from rfl] at h1; omega
    refine ⟨fun _ => 0, inner, fun k hk => own_base ho k hk, by have h9 := ho; rw [List.nil_append] at h9; rw [← HN.out]; exact h9, hlen, fun j x u hx hu => ⟨fun h => by omega, fun _ => ?_⟩⟩
    have hjl : j < news.length := by have := HN.out; have := (List.getElem?_eq_some_iff.1 hx).1; omega
    have h1 := hrp.2 j news[j] (by rw [List.nil_append]; exact List.getElem?_eq_getElem hjl)
    have h2 : (inner.drop (j * 1)).take 1 = news[j] := h1.1
    have hul := (List.getElem?_eq_some_iff.1 hu).1
    have h3 : news[j] = [u] := by
      rw [← h2, Nat.mul_one, List.drop_eq_getElem_cons hul]
      simp only [List.take_succ_cons, List.take_zero]
      rw [(List.getElem?_eq_some_iff.1 hu).2]
    have h4 := HF.out j x news[j] hx (List.getElem?_eq_getElem hjl)
    rw [h3] at h4
    exact Kd.FK_step h4 (fun k hk hlt => HB'.out.block k hlt)
set_option maxHeartbeats 8000000 in
set_option maxRecDepth 100000 in
theorem clone_any (A0 : Option Addr) (c : Nat) (l : List Int) (w : World) (hr : Kd.C (Kd.int .u8) w A0 l.length l) (hl : l.length ≤ 1000000) :
    Calls Try.prog 55 #[.slice A0 l.length c] w fun e w' => ∃ v, e = .returned v ∧ (Kd.int .u8).R 5 w' w.heap.size (fun _ => True) v l ∧ Below w.heap.size w w' := by
  cases A0 with
  | some ad => exact clone_bytes ad c l w hr hl
  | none =>
    have q22 : ∀ (w : World) (a : Option Addr) (n c n' c' : Nat), (binOp .eql 25 (.slice a n c) (.slice none n' c')).run Try.prog w = .ok (.bool a.isNone) w := fun w a n c n' c' => eql_nil w _ _ a n c n' c' Try.underlying25
    have h0 : l = [] := by
      rcases Nat.eq_zero_or_pos l.length with h | h
      · exact List.eq_nil_of_length_eq_zero h
      · obtain ⟨ad, he, _⟩ := hr.2.2 h
        cases he
    subst h0
    clear hr hl
    go_enter Try.func55, Try.ntmps55
    go_wp2
    go_ret
    exact ⟨_, rfl, Kd.R_nil _ _ _ _ _, Below.refl _ _⟩

end Go.Proofs.Ytpbfeegfkiegeaa.M
