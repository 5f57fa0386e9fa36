/- Part of a claim: what some functions of the program compute, each with its contract; no condition of its own. Written by a program of this workplace (gen.py, over the print of the kit) and by hand. -/
import Derived.Test.YtdbnglmcimckmaaM0
import Derived.Test.YtdbnglmcimckmaaM1
namespace Go.Proofs.Ytdbnglmcimckmaa.M
open Go.RowKit Go.Proofs.YtdbnglmcimckmaaW.PrintWords Go.Proofs.YtdbnglmcimckmaaW.PrintLast Go.Proofs.YtdbnglmcimckmaaW.PrintMore
attribute [local go_sem] max2_int min2_int max_two min_two max_three min_three max_four min_four   -- for this text's walks alone
set_option linter.unusedVariables false
set_option linter.unusedSimpArgs false

/-! ### slices.Grow of nil, slices.Concat, at bytes -/
set_option maxHeartbeats 8000000 in
set_option maxRecDepth 100000 in
theorem grow_bytes (n : Int) (w : World) (h0 : 0 ≤ n) (h1 : n ≤ 140737488355328) :
    Calls Try.prog 39 #[.slice none 0 0, .int .i64 n] w fun e w' => ∃ v, e = .returned v ∧ (Kd.int .u8).R 5 w' w.heap.size (fun _ => True) v [] ∧ Below w.heap.size w w' := by
  have c1 : ¬ n < 0 := by omega
  have b1 : decide (n < 0) = false := decide_eq_false c1
  clear c1
  by_cases c2 : 0 < n
  · have b2 : decide (0 < n) = true := decide_eq_true c2
    have HB := Aside0.mk (Below.refl w.heap.size w)
    go_enter Try.func39, Try.ntmps39
    go_wp2_with (((with_reducible refine gate_builtin (b := .append) (xs := #[.tmp 20, .tmp 21]) rfl ?_); at_builtin; refine Kd.R_append_zeros (Kd.int .u8) (w0 := w) w.heap.size rfl (.tmp 20) (.tmp 21) 31 3 5 (.int .u8 0) 1 rfl Try.underlying31 Try.underlying3 info5 rfl (by decide) (by omega) (.slice none 0 0) [] 0 n (fun _ => True) rfl rfl rfl (fun _ _ => trivial) (Kd.R_nil _ _ _ _ _) h0 (Below.refl _ _) (Nat.le_refl _) (by simp; omega) ?_; intro v1 w1 ho hb hg hat; obtain ⟨A2, c2', he⟩ := Kd.R_slice ho; subst he; have HO := Aside0.mk ho; have HB := Aside0.mk hb; clear ho hb hg hat))
    go_ret
    exact ⟨_, rfl, by simpa using Kd.R_take (m := 0) HO.out (Nat.zero_le _), HB.out⟩
  · have b2 : decide (0 < n) = false := decide_eq_false c2
    have e : n = 0 := by omega
    subst e
    clear h0 h1 c2 b1 b2
    go_enter Try.func39, Try.ntmps39
    go_wp2
    go_ret
    exact ⟨_, rfl, Kd.R_nil _ _ _ _ _, Below.refl _ _⟩
theorem flat_take {l : List (List Int)} {i : Nat} (hi : i < l.length) : (l.take (i + 1)).flatten = (l.take i).flatten ++ l.getD i [] := by
  rw [List.take_add_one, List.getElem?_eq_getElem hi, List.flatten_append]
  simp [List.getD_eq_getElem?_getD, hi]
theorem flat_le (l : List (List Int)) (i : Nat) : (l.take i).flatten.length ≤ l.flatten.length := by
  conv => rhs; rw [← List.take_append_drop i l]
  rw [List.flatten_append, List.length_append]
  omega
set_option maxHeartbeats 8000000 in
set_option maxRecDepth 100000 in
theorem concat_bytes (A0 : Option Addr) (c0 : Nat) (l0 : List (List Int)) (w : World) (hr0 : Kd.C (Kd.slice 5 (Kd.int .u8)) w A0 l0.length l0) (hc0 : l0.length ≤ c0) (hlen : l0.flatten.length ≤ 140737488355328) :
    Calls Try.prog 35 #[.slice A0 l0.length c0] w fun e w' => ∃ v, e = .returned v ∧ (Kd.int .u8).R 5 w' w.heap.size (fun _ => True) v l0.flatten ∧ Below w.heap.size w w' := by
  have HB := Aside0.mk (Below.refl w.heap.size w)
  have HR0 := Aside0.mk hr0
  have HC0 := Aside0.mk hc0
  have HM := Aside0.mk hr0.2.1
  have HLEN := Aside0.mk hlen
  clear hr0 hc0 hlen
  go_enter Try.func35, Try.ntmps35
  go_wp2
  go_loopg [3, 5, 11] l0.length (fun kq v3 _ v11 w' => w = w' ∧ ∃ (x11 x3 : Int), v3 = .int .i64 x3 ∧ v11 = .int .i64 x11 ∧ Aside0 (0 ≤ x11 ∧ x11 ≤ l0.length ∧ l0.length - x11.toNat ≤ kq ∧ x3 = ((l0.take x11.toNat).flatten.length : Int)))
  case atStart => exact ⟨rfl, 0, 0, rfl, rfl, ⟨by omega, by omega, by omega, by simp⟩⟩
  case round =>
    obtain ⟨rfl, x8, x3, rfl, rfl, HI⟩ := hrel
    by_cases c2 : x8 < (l0.length : Int)
    · have c2b0 : decide (x8 < (l0.length : Int)) = true := decide_eq_true c2
      have p1 : 0 ≤ x8 := HI.out.1
      obtain ⟨ad, A1, c1, e1, hx1, hl1, hi1⟩ := at_row HR0.out x8 p1 c2
      cases e1
      have p2 : x8 ≤ 9223372036854775806 := by have := HM.out; omega
      have HT := Aside0.mk c2
      have HS := Aside0.mk (show ((l0.take (x8.toNat + 1)).flatten.length : Int) = x3 + ((rdRow l0 x8).length : Int) by
        rw [flat_take (by omega : x8.toNat < l0.length), List.length_append, HI.out.2.2.2]; rfl)
      have q1 : 0 ≤ x3 := by have := HI.out.2.2.2; omega
      have q2 : x3 + ((rdRow l0 x8).length : Int) ≤ 140737488355328 := by have := flat_le l0 (x8.toNat + 1); have := HS.out; have := HLEN.out; omega
      have q3 : decide (x3 + ((rdRow l0 x8).length : Int) < 0) = false := decide_eq_false (by omega)
      clear hl1 hi1
      replace c2 := eq_true c2
      replace p1 := eq_true p1
      go_wp2
      go_roundg (l0.length - (x8.toNat + 1))
      case measure => have := HT.out; have := HI.out.1; have := HI.out.2.2.1; omega
      case rel =>
        exact ⟨rfl, x8 + 1, x3 + ((rdRow l0 x8).length : Int), by first | rfl | (congr 1; unfold wrap64; omega), wrap_step (by have := HI.out.1; omega) p2, ⟨by have := HI.out.1; omega, by have := HT.out; omega, by have := HI.out.1; omega, by rw [show (x8 + 1).toNat = x8.toNat + 1 by have := HI.out.1; omega]; exact HS.out.symm⟩⟩
    · have c2b0 : decide (x8 < (l0.length : Int)) = false := decide_eq_false c2
      have HX := Aside0.mk (show x3 = (l0.flatten.length : Int) by
        have h1 := HI.out.2.2.2
        rw [List.take_of_length_le (by have := HI.out.1; omega)] at h1
        exact h1)
      have q1 : 0 ≤ x3 := by have := HX.out; omega
      have q2 : x3 ≤ 140737488355328 := by have := HX.out; have := HLEN.out; omega
      have HCALL := Aside0.mk (grow_bytes x3 w q1 q2)
      clear c2
      go_wp2_with (go_at_call 39; refine (HCALL.out).mono ?_; rintro e w' ⟨v, rfl, hv, hb⟩; have HO := Aside0.mk hv; have HB2 := Aside0.mk hb; clear hv hb)
      clear HCALL
      go_loopg [6, 8, 27] l0.length (fun kq v6 _ v27 w' => ∃ (x27 : Int), v27 = .int .i64 x27 ∧ Aside0 (0 ≤ x27 ∧ x27 ≤ l0.length ∧ l0.length - x27.toNat ≤ kq) ∧ Aside0 ((Kd.int .u8).R 5 w' w.heap.size (fun _ => True) v6 (l0.take x27.toNat).flatten) ∧ Aside0 (Below w.heap.size w w'))
      case atStart => exact ⟨0, rfl, ⟨by omega, by omega, by omega⟩, by simpa using HO, HB2⟩
      case round =>
        rename_i wq _
        clear HO HB2 HI HX
        obtain ⟨x9, rfl, HI, HO, HB⟩ := hrel
        by_cases c2 : x9 < (l0.length : Int)
        · have c2b0 : decide (x9 < (l0.length : Int)) = true := decide_eq_true c2
          have p1 : 0 ≤ x9 := HI.out.1
          obtain ⟨ad, A1, c1, e1, hx1, hl1, hi1⟩ := at_row (Kd.C_below HR0.out HB.out) x9 p1 c2
          cases e1
          have p2 : x9 ≤ 9223372036854775806 := by have := HM.out; omega
          have HT := Aside0.mk c2
          have HI1 := Aside0.mk hi1
          have HS := Aside0.mk (show (l0.take (x9.toNat + 1)).flatten = (l0.take x9.toNat).flatten ++ rdRow l0 x9 from flat_take (by omega : x9.toNat < l0.length))
          have HQ := Aside0.mk (show (l0.take x9.toNat).flatten.length + (rdRow l0 x9).length ≤ 140737488355328 by
            have h1 := flat_le l0 (x9.toNat + 1)
            rw [HS.out, List.length_append] at h1
            have := HLEN.out; omega)
          clear hl1 hi1
          replace c2 := eq_true c2
          replace p1 := eq_true p1
          go_wp2_with (((with_reducible refine gate_builtin (b := .append) (xs := #[.tmp 31, .tmp 32]) rfl ?_); at_builtin; refine Kd.R_append_rows (Kd.int .u8) (w0 := w) w.heap.size rfl (.tmp 31) (.tmp 32) 31 5 (.int .u8 0) 1 rfl Try.underlying31 info5 rfl (by decide) (by omega) _ (l0.take x9.toNat).flatten (rdRow l0 x9) _ _ _ (fun _ => True) (fun _ => False) rfl rfl HO.out HI1.out (fun _ _ h => h) (fun _ h => h.elim) (fun _ _ => trivial) HB.out (below_size HB.out) (by have := HQ.out; omega) ?_; intro v1 w1 ho hb hg hat; rw [← HS.out] at ho; have HO' := Aside0.mk ho; have HB' := Aside0.mk hb; clear ho hb hg hat))
          go_roundg (l0.length - (x9.toNat + 1))
          case measure => have := HT.out; have := HI.out.1; have := HI.out.2.2; omega
          case rel =>
            exact ⟨x9 + 1, wrap_step (by have := HI.out.1; omega) p2, ⟨by have := HI.out.1; omega, by have := HT.out; omega, by have := HI.out.1; omega⟩, ⟨by rw [show (x9 + 1).toNat = x9.toNat + 1 by have := HI.out.1; omega]; exact HO'.out⟩, HB'⟩
        · have c2b0 : decide (x9 < (l0.length : Int)) = false := decide_eq_false c2
          have HX := Aside0.mk (show (l0.take x9.toNat).flatten = l0.flatten by rw [List.take_of_length_le (by have := HI.out.1; omega)])
          clear c2
          rw [HX.out] at HO
          go_wp2
          go_ret
          exact ⟨_, rfl, HO.out, HB.out⟩

end Go.Proofs.Ytdbnglmcimckmaa.M
