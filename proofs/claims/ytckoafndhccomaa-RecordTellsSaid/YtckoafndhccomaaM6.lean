/- Part of a claim: what some functions of the program compute, each with its contract; no condition of its own. Written by a program of this workplace (gen.py, over the print of the kit) and by hand. -/
import Derived.Test.YtckoafndhccomaaM0
import Derived.Test.YtckoafndhccomaaM1
import Derived.Test.YtckoafndhccomaaM3
namespace Go.Proofs.Ytckoafndhccomaa.M
open Go.RowKit Go.Proofs.YtckoafndhccomaaW.PrintWords Go.Proofs.YtckoafndhccomaaW.PrintLast Go.Proofs.YtckoafndhccomaaW.PrintMore
attribute [local go_sem] max2_int min2_int max_two min_two max_three min_three max_four min_four   -- for this text's walks alone
set_option linter.unusedVariables false
set_option linter.unusedSimpArgs false

/-! ### copy of bytes into a row that was made; a region of rows, read -/
theorem copyBytesIn {F : Fence} {n : Nat} {ops : Array Oper} {rest : List Oper} {o : Oper} {a : Act} {Q : Exit → Act → World → Prop} {W2 : World} (hgd : o.guard = none) (d s : Operand)
    (ho : o.op = .call { callee := .builtin .copy, args := #[d, s], argTypes := #[30, 30] }) (R m : Nat) (hR : W2.heap[R]? = some (.cells (madeCells #[.int .u8 0] m) 5 (0, 0))) (js : List Int) (ad : Addr) (c2 : Nat)
    (hC : Kd.C (Kd.int .u8) W2 (some ad) js.length js) (hle : js.length ≤ m) (hd : a.eval d = .slice (some ⟨R, 0, none⟩) m m) (hs : a.eval s = .slice (some ad) js.length c2)
    (h : ∀ W3, Below R W2 W3 → W3.heap[R]? = some (.cells (nums .u8 (js ++ List.replicate (m - js.length) 0)).toArray 5 (0, 0)) → KeepsOthers W2 W3 → wpListIn F n Try.prog ops Q rest (a.put o.dst (goInt js.length)) W3) : wpListIn F n Try.prog ops Q (o :: rest) a W2 := by
  have hsz : (madeCells #[.int .u8 0] m).size = m := by simp [size_madeCells]
  have hnl : (nums .u8 js).length = js.length := by simp [nums]
  have hrun := run_copy_row (P := Try.prog) W2 30 30 o.type 5 R 0 m m ad js.length c2 (madeCells #[.int .u8 0] m) 5 (nums .u8 js) Try.underlying30 (by kernel_rfl) hR (by simp only [hnl]; exact (Nat.min_eq_left hle).symm)
    (fun j v hj => by
      have hlt : j < js.length := by
        have := (List.getElem?_eq_some_iff.1 hj).1
        rwa [hnl] at this
      obtain ⟨ad', e, hcell⟩ := hC.2.2 (by omega)
      cases e
      obtain ⟨c, hl, hK, hcc⟩ := hcell j js[j] (List.getElem?_eq_getElem hlt)
      have hv : v = .int .u8 js[j] := by
        simp only [nums, List.getElem?_map, List.getElem?_eq_getElem hlt, Option.map_some, Option.some.injEq] at hj
        exact hj.symm
      subst hv
      have := hcc 0 (.int .u8 js[j]) (by
        have hK' : c = [Value.int .u8 js[j]] := hK
        rw [hK']; rfl)
      simpa [show (Kd.int .u8).sz = 1 from rfl] using this) (by rw [hnl, hsz]; omega) (fun v hv => by
      simp only [nums, List.mem_map] at hv
      obtain ⟨x, _, rfl⟩ := hv
      rfl)
  have hcs : (madeCells #[.int .u8 0] m).toList.take 0 ++ nums .u8 js ++ (madeCells #[.int .u8 0] m).toList.drop (0 + (nums .u8 js).length) = nums .u8 (js ++ List.replicate (m - js.length) 0) := by
    rw [made_list, hnl]
    simp [nums]
  rw [hcs, hnl] at hrun
  refine copyIn hgd d s _ _ ho _ _ _ hd hs hrun (h _ (below_setRow (Below.refl _ _) (Nat.le_refl _) _) (setRow_heap W2 R _ _ _ _ hR) ?_)
  refine ⟨by simp, fun k x hk hx => ?_⟩
  rw [setRow_other W2 R k _ (fun e => ?_)]
  · exact hk
  · subst e
    rw [hR] at hk
    cases hk
    cases hx
theorem own_filled {W : World} {base R m : Nat} {xs : List Int} (hb : base ≤ R) (hm : xs.length = m) (hmm : m ≤ 1000000) (h : W.heap[R]? = some (.cells (nums .u8 xs).toArray 5 (0, 0))) :
    W.ownsRow base 5 1 (.slice (some ⟨R, 0, none⟩) m m) m (nums .u8 xs) :=
  ⟨by simp [nums, hm], .inr ⟨R, m, _, rfl, hb, h, Nat.le_refl _, by unfold maxLen; omega, by simp [nums, hm], by rw [← hm, Nat.mul_one]; exact List.take_of_length_le (by simp [nums])⟩⟩
theorem S_same {α : Type} {d : Kd α} {e : Nat} {A B : World} {base : Nat} {ok : Nat → Prop} {v : Value} {xs : List α} (h : Kd.S d e A base ok v xs) (hb : Below A.heap.size A B) : Kd.S d e B base (fun k => ok k ∧ k < A.heap.size) v xs :=
  Kd.S_mono (Kd.S_move (Kd.S_bound h) (fun k hk => hb.block k hk.2.2.1)) (fun _ hk => ⟨hk.1, hk.2.2.1⟩)
theorem boxed_same {A B : World} {g t : Nat} {v : Value} (h : Boxed A g t v) (hb : Below A.heap.size A B) : Boxed B g t v := (hb.block g h.lt).trans h
theorem keeps_below {A B : World} (hb : Below A.heap.size A B) : KeepsOthers A B := ⟨hb.size, fun k o hk _ => (hb.block k (Array.getElem?_eq_some_iff.1 hk).1).trans hk⟩

/-! ### an append, as a run; the marks of ended loops -/
theorem append_run {P : Program} {α : Type} (d : Kd α) {w0 W : World} (base : Nat) (t ty e : TypeId) (z : Value) (bytes : Nat)
    (ht : P.underlying t = some (.slice e)) (hinfo : (P.info? e).map (fun i => (i.zero, i.size, i.bytes)) = some (some z, d.sz, bytes)) (hz : z.cells.size = d.sz) (hs0 : 0 < d.sz) (hb0 : 0 < bytes)
    (v : Value) (xs : List α) (p : α) (cs : List Value) (ok okp : Nat → Prop) (hp : d.M W base okp p cs) (hokp : ∀ k, okp k → ok k ∧ some k ≠ v.ownBlock) (hfresh : ∀ k, W.heap.size ≤ k → ok k)
    (HO : Kd.S d e W base (fun k => ok k ∧ ¬ okp k) v xs) (HB : Below base w0 W) (hbase : base ≤ W.heap.size) (hl : (xs.length + 1) * bytes ≤ 140737488355328) :
    ∃ v1 w1, (Builtin.append_ #[t, t] ty #[v, .slice (some ⟨W.heap.size, 0, none⟩) 1 1]).run P (W.alloc (.cells cs.toArray e)) = .ok v1 w1 ∧ Kd.S d e w1 base ok v1 (xs ++ [p]) ∧ Below base w0 w1 ∧ W.grownBy w1 v.ownBlock := by
  obtain ⟨f, hf, hR⟩ := Kd.S_tag HO xs.length okp (fun _ hk h2 => h2.2 hk)
  obtain ⟨h0, inner, hown, hr⟩ := hR
  obtain ⟨i0, hi, hzz⟩ := Option.map_eq_some_iff.1 hinfo
  simp only [Prod.mk.injEq] at hzz
  obtain ⟨hz0, hz1, hz2⟩ := hzz
  have hxl : xs.zipIdx.length = xs.length := List.length_zipIdx
  have hlen : xs.zipIdx.length + 1 ≤ 140737488355328 := by rw [hxl]; exact Nat.le_trans (Nat.le_mul_of_pos_right _ hb0) hl
  obtain ⟨v1, w1, hrun, hown1, hg, _, hat0⟩ := run_append_own_at (P := P) (W.alloc (.cells cs.toArray e)) base t ty e i0 z d.sz bytes ht hi hz0 hz1 hz2 hz hs0 v xs.zipIdx.length inner (hown.alloc _) ⟨W.heap.size, 0, none⟩ 1 1 cs (by rw [d.K_len (d.K_of_M hp)]; simp)
    (by simpa using World.news_of_block (cs := cs.toArray) (t := e) (fr := (0, 0)) (heap_alloc_new W (.cells cs.toArray e))) (d.K_one (d.K_of_M hp)) (by simp only [maxLen]; omega) (by rw [hxl]; exact hl) (by simp; omega)
  have hB1 : Below base w0 w1 := (HB.alloc hbase _).grown hg (by simp; omega) (own_base hown)
  have hg1 : W.grownBy w1 v.ownBlock := World.grownBy.trans (World.grownBy_alloc W _ _) hg
  have hat : v1.ownBlock = v.ownBlock ∨ ∃ b, v1.ownBlock = some b ∧ W.heap.size ≤ b := by
    rcases hat0 with h1 | h1
    · exact .inl h1
    · exact .inr ⟨_, h1, by simp⟩
  refine ⟨v1, w1, hrun, ⟨f, ?_⟩, hB1, hg1⟩
  rw [Kd.zip_snoc]
  exact Kd.R_appended (d := Kd.tag f d) (p := (p, xs.length)) (okp := okp) (fun k hk => (h0 k hk).1) (hr.imp_ (fun _ _ hq => (Kd.tag f d).M_mono (fun k hk => ⟨hk.1.1, hk.2⟩) hq)) (d.M_mono (fun k hk => ⟨hk, hf k hk⟩) hp) hokp hfresh hown1 hg1 hat
def marks (ds : List Nat) : List Deferred := ds.map fun D => { target := .collected D, args := #[] }
theorem leaves_marks {F : Fence} {n : Nat} {P : Program} {fn : Func} {tmps : Array Value} {R : Ending → World → Prop} (B : Nat) (I : World → Prop)
    (hI : ∀ W D, B ≤ D → I W → W.heap[D]? = some (.deferred (some [])) → I (W.putObj D (.deferred none))) (hfin : ∀ W, I W → LeavesIn F n P fn tmps R [] .returning W) :
    ∀ (ds : List Nat) (W : World), ds.Nodup → (∀ D ∈ ds, B ≤ D ∧ W.heap[D]? = some (.deferred (some []))) → I W → LeavesInM F n P fn tmps R (marks ds) .returning W
  | [], W, _, _, h => hfin W h
  | D :: ds, W, hnd, hds, h => by
    have hD := hds D (List.mem_cons_self ..)
    have hnd2 := List.nodup_cons.1 hnd
    refine ⟨by simp, .inl ⟨D, _, rfl, run_takeDeferred hD.2, ?_⟩⟩
    refine leaves_marks B I hI hfin ds _ hnd2.2 (fun D' hD' => ?_) (hI W D hD.1 h hD.2)
    refine ⟨(hds D' (List.mem_cons_of_mem _ hD')).1, ?_⟩
    rw [World.putObj_heap_other (fun e => hnd2.1 (by first | (rw [e]; exact hD') | (rw [← e]; exact hD')))]
    exact (hds D' (List.mem_cons_of_mem _ hD')).2

end Go.Proofs.Ytckoafndhccomaa.M
