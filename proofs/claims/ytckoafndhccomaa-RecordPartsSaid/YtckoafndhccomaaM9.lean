/- Part of a claim: what some functions of the program compute, each with its contract; no condition of its own. Written by a program of this workplace (gen.py, over the print of the kit) and by hand. -/
import Derived.Test.YtckoafndhccomaaM0
import Derived.Test.YtckoafndhccomaaM1
import Derived.Test.YtckoafndhccomaaM4
namespace Go.Proofs.Ytckoafndhccomaa.M
open Go.RowKit Go.Proofs.YtckoafndhccomaaW.PrintWords Go.Proofs.YtckoafndhccomaaW.PrintLast Go.Proofs.YtckoafndhccomaaW.PrintMore
attribute [local go_sem] max2_int min2_int max_two min_two max_three min_three max_four min_four   -- for this text's walks alone
set_option linter.unusedVariables false
set_option linter.unusedSimpArgs false

/-! ### copy of bytes into a row that was made; a region of rows, read -/
theorem copyBytesIn {F : Fence} {n : Nat} {ops : Array Oper} {rest : List Oper} {o : Oper} {a : Act} {Q : Exit → Act → World → Prop} {W2 : World} (hgd : o.guard = none) (d s : Operand)
    (ho : o.op = .call { callee := .builtin .copy, args := #[d, s], argTypes := #[30, 30] }) (R m : Nat) (hR : W2.heap[R]? = some (.cells (madeCells #[.int .u8 0] m) 5 (0, 0))) (js : List Int) (ad : Addr) (c2 : Nat)
    (hC : Kd.C (Kd.int .u8) W2 (some ad) js.length js) (hle : js.length ≤ m) (hd : a.eval d = .slice (some ⟨R, 0, none⟩) m m) (hs : a.eval s = .slice (some ad) js.length c2)
    (h : ∀ W3, Below R W2 W3 → W3.heap[R]? = some (.cells (nums .u8 (js ++ List.replicate (m - js.length) 0)).toArray 5 (0, 0)) → KeepsOthers W2 W3 → wpListIn F n Try.prog ops Q rest (a.put o.dst (goInt js.length)) W3) : wpListIn F n Try.prog ops Q (o :: rest) a W2 := by
  have hsz : (madeCells #[.int .u8 0] m).size = m := by simp [size_madeCells]
  have hnl : (nums .u8 js).length = js.length := by simp [nums]
  have hrun := run_copy_row (P := Try.prog) W2 30 30 o.type 5 R 0 m m ad js.length c2 (madeCells #[.int .u8 0] m) 5 (nums .u8 js) Try.underlying30 (by kernel_rfl) hR (by simp only [hnl]; exact (Nat.min_eq_left hle).symm)
    (fun j v hj => by
      have hlt : j < js.length := by
        have := (List.getElem?_eq_some_iff.1 hj).1
        rwa [hnl] at this
      obtain ⟨ad', e, hcell⟩ := hC.2.2 (by omega)
      cases e
      obtain ⟨c, hl, hK, hcc⟩ := hcell j js[j] (List.getElem?_eq_getElem hlt)
      have hv : v = .int .u8 js[j] := by
        simp only [nums, List.getElem?_map, List.getElem?_eq_getElem hlt, Option.map_some, Option.some.injEq] at hj
        exact hj.symm
      subst hv
      have := hcc 0 (.int .u8 js[j]) (by
        have hK' : c = [Value.int .u8 js[j]] := hK
        rw [hK']; rfl)
      simpa [show (Kd.int .u8).sz = 1 from rfl] using this) (by rw [hnl, hsz]; omega) (fun v hv => by
      simp only [nums, List.mem_map] at hv
      obtain ⟨x, _, rfl⟩ := hv
      rfl)
  have hcs : (madeCells #[.int .u8 0] m).toList.take 0 ++ nums .u8 js ++ (madeCells #[.int .u8 0] m).toList.drop (0 + (nums .u8 js).length) = nums .u8 (js ++ List.replicate (m - js.length) 0) := by
    rw [made_list, hnl]
    simp [nums]
  rw [hcs, hnl] at hrun
  refine copyIn hgd d s _ _ ho _ _ _ hd hs hrun (h _ (below_setRow (Below.refl _ _) (Nat.le_refl _) _) (setRow_heap W2 R _ _ _ _ hR) ?_)
  refine ⟨by simp, fun k x hk hx => ?_⟩
  rw [setRow_other W2 R k _ (fun e => ?_)]
  · exact hk
  · subst e
    rw [hR] at hk
    cases hk
    cases hx
theorem own_filled {W : World} {base R m : Nat} {xs : List Int} (hb : base ≤ R) (hm : xs.length = m) (hmm : m ≤ 1000000) (h : W.heap[R]? = some (.cells (nums .u8 xs).toArray 5 (0, 0))) :
    W.ownsRow base 5 1 (.slice (some ⟨R, 0, none⟩) m m) m (nums .u8 xs) :=
  ⟨by simp [nums, hm], .inr ⟨R, m, _, rfl, hb, h, Nat.le_refl _, by unfold maxLen; omega, by simp [nums, hm], by rw [← hm, Nat.mul_one]; exact List.take_of_length_le (by simp [nums])⟩⟩
theorem S_same {α : Type} {d : Kd α} {e : Nat} {A B : World} {base : Nat} {ok : Nat → Prop} {v : Value} {xs : List α} (h : Kd.S d e A base ok v xs) (hb : Below A.heap.size A B) : Kd.S d e B base (fun k => ok k ∧ k < A.heap.size) v xs :=
  Kd.S_mono (Kd.S_move (Kd.S_bound h) (fun k hk => hb.block k hk.2.2.1)) (fun _ hk => ⟨hk.1, hk.2.2.1⟩)
theorem boxed_same {A B : World} {g t : Nat} {v : Value} (h : Boxed A g t v) (hb : Below A.heap.size A B) : Boxed B g t v := (hb.block g h.lt).trans h
theorem keeps_below {A B : World} (hb : Below A.heap.size A B) : KeepsOthers A B := ⟨hb.size, fun k o hk _ => (hb.block k (Array.getElem?_eq_some_iff.1 hk).1).trans hk⟩

end Go.Proofs.Ytckoafndhccomaa.M
