/- Part of a claim: what some functions of the program compute, each with its contract; no condition of its own. Written by a program of this workplace (gen.py, over the print of the kit) and by hand. -/
import Derived.Test.YtckoafndhccomaaM0
import Derived.Test.YtckoafndhccomaaM3
namespace Go.Proofs.Ytckoafndhccomaa.M
open Go.RowKit Go.Proofs.YtckoafndhccomaaW.PrintWords Go.Proofs.YtckoafndhccomaaW.PrintLast Go.Proofs.YtckoafndhccomaaW.PrintMore
attribute [local go_sem] max2_int min2_int max_two min_two max_three min_three max_four min_four   -- for this text's walks alone
set_option linter.unusedVariables false
set_option linter.unusedSimpArgs false

section
attribute [local go_sem] Oper.semAt_some min2_int min_two
theorem chunkR_calls (A : Option Addr) (len c : Nat) (m : Int) (hm : 1 ≤ m) (w : World) : Calls Try.prog 25 #[.slice A len c, .int .i64 m] w fun e w' => e = .returned (.func (.func 34) #[] #[.pointer (some ⟨w.heap.size, 0, none⟩), .pointer (some ⟨w.heap.size + 1, 0, none⟩)]) ∧ (w.alloc (.cells #[.slice A len c] 22)).alloc (.cells #[.int .i64 m] 3) = w' := by
  have b1 : decide (m < 1) = false := decide_eq_false (by omega)
  have b2 : ¬ m < 1 := by omega
  clear hm
  have bB := (Boxed.new w 22 (.slice A len c)).alloc (.cells #[.int .i64 m] 3)
  have bC := Boxed.new (w.alloc (.cells #[.slice A len c] 22)) 3 (.int .i64 m)
  have hcC := bC.cell
  have hfC := bC.frozen
  rw [World.size_alloc] at hcC hfC
  clear bB bC
  go_enter Try.func25, Try.ntmps25
  go_wp2
  go_ret
  exact ⟨rfl, rfl⟩
/-- What the iterator needs kept. -/
def ChunkRR (B C : Nat) (A : Option Addr) (len c m : Nat) (W : World) : Prop := Boxed W B 22 (.slice A len c) ∧ Boxed W C 3 (.int .i64 (m : Int))
set_option maxHeartbeats 8000000 in
set_option maxRecDepth 100000 in
theorem chunkR_in (F : Fence) (n : Nat) (hF : F.fn 34) (hro : F.round = none) (hn : 1 ≤ n) (l B C : Nat) (A : Option Addr) (len c m : Nat) (hm : 1 ≤ m) (hm2 : m ≤ 1000000) (hl : len ≤ 1000000000000) (hc : len ≤ c) (J : Nat → World → Prop)
    (hJ : ∀ i A A', J i A → (∃ q, A' = A.drewN q) → J i A')
    (hY : ∀ i W, i < partsOf len m → J i W → ChunkRR B C A len c m W → YieldAt F (n - 1) Try.prog l #[pieceV A len m i] W fun e W' => e = .returned (.bool true) ∧ J (i + 1) W' ∧ ChunkRR B C A len c m W')
    (W : World) (h0 : J 0 W) (hR : ChunkRR B C A len c m W) :
    CallsIn F n Try.prog 34 #[.func (.yield l) #[] #[], .pointer (some ⟨B, 0, none⟩), .pointer (some ⟨C, 0, none⟩)] W fun e A' => (∃ v, e = .returned v) ∧ J (partsOf len m) A' := by
  refine callsIn_of_wp Try.func34 rfl hF ?_ hro
  simp only [Try.ntmps34, List.size_toArray, List.length_cons, List.length_nil, Nat.reduceAdd, Nat.reduceSub, Array.replicate_succ, Array.replicate_zero, List.push_toArray, List.append_toArray, List.nil_append, List.cons_append]
  have HL := Aside0.mk hl
  have HC := Aside0.mk hc
  have HM := Aside0.mk hm
  have HM2 := Aside0.mk hm2
  clear hl hc hm hm2
  gi_wp2
  gi_loopw [4] (fun v4 wr => ∃ i : Nat, v4 = .int .i64 ((m * i : Nat) : Int) ∧ i ≤ partsOf len m ∧ Aside0 (J i wr) ∧ Aside0 (ChunkRR B C A len c m wr)) (fun v4 _ => len - intOf v4)
  case atStart => exact ⟨0, rfl, Nat.zero_le _, ⟨h0⟩, ⟨hR⟩⟩
  case round =>
    obtain ⟨i, rfl, hi, HJ, HR⟩ := hrel
    have hlti := parts_lt len m i HM.out
    obtain ⟨x, hx⟩ : ∃ x : Nat, m * i = x := ⟨_, rfl⟩
    have hcB := HR.out.1.cell
    have hfB := HR.out.1.frozen
    have hcC := HR.out.2.cell
    have hfC := HR.out.2.frozen
    rw [hx] at hlti
    rw [hx]
    have HI := Aside0.mk hi
    have HX := Aside0.mk hx
    by_cases hlt : x < len
    · have b1 : decide ((x : Int) < (len : Int)) = true := decide_eq_true (by omega)
      have b2 : (x : Int) < (len : Int) := by omega
      have HIP := Aside0.mk (hlti.2 hlt)
      have p0 : (0 : Int) ≤ (x : Int) := by omega
      have p1 : (x : Int) ≤ (len : Int) := by omega
      have p2 : x ≤ len := by omega
      have p3 : x < c := by have := HC.out; omega
      have p4 : x ≤ c := by omega
      have p5 : ¬ c = x := by omega
      have q1 : ((len - x : Nat) : Int) = (len : Int) - (x : Int) := by omega
      clear hlti hi hx
      have hmin : (if (len : Int) - (x : Int) < (m : Int) then (len : Int) - (x : Int) else (m : Int)) = ((min m (len - x) : Nat) : Int) := by split <;> omega
      obtain ⟨p, hp⟩ : ∃ p : Nat, min m (len - x) = p := ⟨_, rfl⟩
      rw [hp] at hmin
      have hp1 : 1 ≤ p := by have := HM.out; omega
      have hp2 : x + p ≤ len := by omega
      have ks : ∀ W : World, (Instr.slice 22 (.slice A len c) (some (.int .i64 (x : Int))) (some (.int .i64 ((x : Int) + (p : Int)))) (some (.int .i64 ((x : Int) + (p : Int))))).run Try.prog W = .ok (pieceV A len m i) W := fun W => by
        rw [run_slice_lhm W 22 A len c (by kernel_rfl) .i64 .i64 .i64 (x : Int) ((x : Int) + (p : Int)) ((x : Int) + (p : Int)) p0 (by omega) (by omega) (by have := HC.out; omega)]
        go_simp
        unfold pieceV
        rw [HX.out, hp]
        simp only [show ((x : Int) + (p : Int)).toNat = x + p by omega, Int.toNat_natCast, sliced]
        rw [if_neg (by omega)]
        simp
      have q2 : (x : Int) + (p : Int) ≤ 1000000000000 := by have := HL.out; omega
      have q3 : (0 : Int) ≤ (p : Int) := by omega
      have q4 : (x : Int) + (m : Int) ≤ 2000000000000 := by have := HL.out; have := HM2.out; omega
      have q5 : (0 : Int) ≤ (m : Int) := by omega
      have HP := Aside0.mk hp
      have HXL := Aside0.mk hlt
      have HJ1 := Aside0.mk (hJ i wr wr.drew HJ.out ⟨1, rfl⟩)
      have HR1 : Aside0 (ChunkRR B C A len c m wr.drew) := ⟨⟨boxed_drew HR.out.1, boxed_drew HR.out.2⟩⟩
      obtain ⟨fn, tmps, assign, body, hy, hR'⟩ := hY i wr.drew HIP.out HJ1.out HR1.out
      have HRR := Aside0.mk hR'
      have hcB1 := HR1.out.1.cell
      have hfB1 := HR1.out.1.frozen
      have hcC1 := HR1.out.2.cell
      have hfC1 := HR1.out.2.frozen
      clear hR' hp hp1 hp2 hY hlt hJ
      generalize hpv : pieceV A len m i = pv at hy ks
      gi_wp2
      refine wpIn_mono (Q := fun e a' w' => e = Exit.normal ∧ a' = { tmps := #[.func (.yield l) #[] #[], .pointer (some ⟨B, 0, none⟩), .pointer (some ⟨C, 0, none⟩), undef, .int .i64 (x : Int), .int .i64 (p : Int), .int .i64 (x : Int), .slice A len c, .int .i64 (len : Int), .bool true, u10, u11, u12, .int .i64 (m : Int), .slice A len c, .int .i64 (x : Int), .slice (A.map (·.add x)) (len - x) (c - x), .int .i64 ((len : Int) - (x : Int)), .int .i64 (p : Int), u19, u20, u21, u22, u23, u24, u25, u26, u27, u28, u29, u30], defers := [] } ∧ w' = wr.drew) ?first ?second
      case first =>
        gi_region
        all_goals (
          try rw [hmin]
          exact ⟨rfl, rfl, rfl⟩)
      case second =>
        rintro e a' w' ⟨rfl, rfl, rfl⟩
        gi_wp2
        refine HRR.out.mono ?_
        rintro e W3 ⟨rfl, hJ3, hR3⟩
        have HJ3 := Aside0.mk hJ3
        have HR3 := Aside0.mk hR3
        have hcC3 := hR3.2.cell
        have hfC3 := hR3.2.frozen
        clear hJ3 hR3 hy
        gi_wp2
        go_roundw
        case rel => exact ⟨i + 1, by rw [Nat.mul_add, Nat.mul_one, HX.out]; first | rfl | (congr 1; unfold wrap64; omega), HIP.out, HJ3, HR3⟩
        case measure =>
          have h1 : x < len := HXL.out
          have h2 := HM.out
          simp only [intOf, Array.getD, List.size_toArray, List.length_cons, List.length_nil]
          simp
          omega
    · have b1 : decide ((x : Int) < (len : Int)) = false := decide_eq_false (by omega)
      have HN := Aside0.mk (show i = partsOf len m by have h1 := HI.out; have h2 : ¬ i < partsOf len m := fun h => hlt (hlti.1 h); omega)
      clear hlti hi hx
      gi_wp2
      go_end0
      exact ⟨⟨_, rfl⟩, by rw [← HN.out]; exact HJ.out⟩
end

end Go.Proofs.Ytckoafndhccomaa.M
