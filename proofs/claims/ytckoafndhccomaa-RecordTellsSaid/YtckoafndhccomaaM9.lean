/- Part of a claim: what some functions of the program compute, each with its contract; no condition of its own. Written by a program of this workplace (gen.py, over the print of the kit) and by hand. -/
import Derived.Test.YtckoafndhccomaaM0
import Derived.Test.YtckoafndhccomaaM3
import Derived.Test.YtckoafndhccomaaM5
import Derived.Test.YtckoafndhccomaaM6
import Derived.Test.YtckoafndhccomaaM7
import Derived.Test.YtckoafndhccomaaM8
namespace Go.Proofs.Ytckoafndhccomaa.M
open Go.RowKit Go.Proofs.YtckoafndhccomaaW.PrintWords Go.Proofs.YtckoafndhccomaaW.PrintLast Go.Proofs.YtckoafndhccomaaW.PrintMore
attribute [local go_sem] max2_int min2_int max_two min_two max_three min_three max_four min_four   -- for this text's walks alone
set_option linter.unusedVariables false
set_option linter.unusedSimpArgs false

/-! ### record_Group: function 12 -/
section
attribute [local go_sem] Oper.semAt_some
/-- A record of blocks: the blocks, one behind the other, filled up with noughts. -/
def recOf (l : List (List Int)) (b i : Nat) : List Int := ((l.drop (b * i)).take b).flatten ++ List.replicate (b * 512 - ((l.drop (b * i)).take b).flatten.length) 0
def groupOf (l : List (List Int)) (b n : Nat) : List (List Int) := (List.range n).map (recOf l b)
theorem groupOf_succ (l : List (List Int)) (b n : Nat) : groupOf l b (n + 1) = groupOf l b n ++ [recOf l b n] := by simp [groupOf, List.range_succ]
theorem groupOf_length (l : List (List Int)) (b n : Nat) : (groupOf l b n).length = n := by simp [groupOf]
def record_Group.f (l0 : List (List Int)) (a1 : Int) : Option (List (List Int) × Bool) :=
  if 1 ≤ a1 ∧ a1 ≤ 20 ∧ l0.length ≤ 4000 ∧ (l0.all fun b => b.length == 512) = true then some (groupOf l0 a1.toNat (partsOf l0.length a1.toNat), true) else some ([], false)
theorem May_f (l : List (List Int)) : block_May.f l = some (l.all fun b => b.length == 512) := by
  unfold block_May.f
  congr 1
  induction l with
  | nil => rfl
  | cons a l ih =>
    simp only [List.any_cons, List.all_cons, Bool.not_or, ih]
    cases h : (a.length == 512) <;> simp_all [bne]
theorem flat_all : ∀ l : List (List Int), (∀ x ∈ l, x.length = 512) → l.flatten.length = 512 * l.length
  | [], _ => rfl
  | a :: l, h => by
    rw [List.flatten_cons, List.length_append, List.length_cons, flat_all l (fun x hx => h x (List.mem_cons_of_mem _ hx)), h a (List.mem_cons_self ..)]
    omega
theorem own_rec {W : World} {base R m : Nat} {xs : List Int} (hb : base ≤ R) (hm : xs.length = m) (hmm : m ≤ 1000000) (h : W.heap[R]? = some (.cells (nums .u8 xs).toArray 5 (0, 0))) :
    W.ownsRow base 5 1 (.slice (some ⟨R, 0, none⟩) m m) xs.length (nums .u8 xs) := by
  have h1 := own_filled hb hm hmm h
  rw [hm]
  exact h1
theorem own_block_eq {R m c k : Nat} (h : (Value.slice (some ⟨R, 0, none⟩) m c).ownBlock = some k) : k = R := by
  have : R = k := by simpa [Value.ownBlock] using h
  exact this.symm
def GroupI (w : World) (l : List (List Int)) (b i : Nat) (W : World) : Prop :=
  (∃ v, Boxed W (w.heap.size + 1) 22 v ∧ Kd.S (Kd.slice 5 (Kd.int .u8)) 30 W w.heap.size (fun _ => True) v (groupOf l b i)) ∧ Boxed W w.heap.size 3 (.int .i64 (b : Int)) ∧ Below w.heap.size w W
theorem boxed_drewN {W : World} {B t : Nat} {v : Value} (h : Boxed W B t v) (q : Nat) : Boxed (W.drewN q) B t v := h
theorem GroupI.step {w : World} {l : List (List Int)} {b i : Nat} {A A' : World} (h : GroupI w l b i A) (hs : ∃ q, A' = A.drewN q) : GroupI w l b i A' := by
  obtain ⟨⟨v, hv, hS⟩, hb, hB⟩ := h
  obtain ⟨q, rfl⟩ := hs
  exact ⟨⟨v, boxed_drewN hv q, Kd.S_drewN hS q⟩, boxed_drewN hb q, pw_below_drewN hB q⟩
theorem GroupI.own (w : World) (l : List (List Int)) (b : Nat) (n : Nat) (hn : w.heap.size ≤ n) : OwnFrom n (GroupI w l b) := by
  intro i A B row h hg hr
  have hr' : ∀ r, row = some r → ∃ o : Obj, A.heap[r]? = some o ∧ o.isCells = false := fun r e => (hr r e).2
  obtain ⟨⟨v, hv, hS⟩, hb, hB⟩ := h
  exact ⟨⟨v, boxed_noncells hv hg hr', S_noncells hS hg hr'⟩, boxed_noncells hb hg hr', hB.grown hg hB.size (fun k e => Nat.le_trans hn (hr k e).1)⟩
set_option maxHeartbeats 8000000 in
set_option maxRecDepth 100000 in
theorem record_Group.calls (A0 : Option Addr) (c0 : Nat) (l0 : List (List Int)) (a1 : Int) (r1 : List (List Int)) (r2 : Bool) (w : World) (hr0 : Kd.C (Kd.slice 5 (Kd.int .u8)) w A0 l0.length l0) (hc0 : l0.length ≤ c0) (h : record_Group.f l0 a1 = some (r1, r2)) :
    Calls Try.prog 12 #[.slice A0 l0.length c0, .int .i64 a1] w fun e w' => ∃ v0_ : Value, e = .returned (.tuple #[v0_, .bool r2]) ∧ Kd.S (Kd.slice 5 (Kd.int .u8)) 30 w' w.heap.size (fun _ => True) v0_ r1 ∧ Below w.heap.size w w' := by
  have HR := Aside0.mk hr0
  have HC := Aside0.mk hc0
  have HM := Aside0.mk hr0.2.1
  have hB0 : Below w.heap.size w (w.alloc (.cells #[.int .i64 a1] 3)) := (Below.refl _ w).alloc (Nat.le_refl _) _
  have bN := Boxed.new w 3 (.int .i64 a1)
  have hcN := bN.cell
  have hfN := bN.frozen
  have HBN := Aside0.mk bN
  have HB0 := Aside0.mk hB0
  clear hB0 bN
  unfold record_Group.f at h
  have F24 : Fence.wide.fn 24 := trivial
  have F21 : Fence.wide.fn 21 := trivial
  have F25 : Fence.wide.fn 25 := trivial
  refine (callsIn_wide (n := 5)).1 ?_
  refine callsIn_of_wp_marks Try.func12 rfl trivial ?_ rfl
  simp only [Try.ntmps12, List.size_toArray, List.length_cons, List.length_nil, Nat.reduceAdd, Nat.reduceSub, Array.replicate_succ, Array.replicate_zero, List.push_toArray, List.append_toArray, List.nil_append, List.cons_append]
  by_cases c1 : 1 ≤ a1 ∧ a1 ≤ 20
  · have hf : record_factor.f a1 = some true := by unfold record_factor.f; rw [if_pos (by omega), decide_eq_true c1.2]
    by_cases c2 : l0.length ≤ 4000
    · have b2 : decide (4000 < (l0.length : Int)) = false := decide_eq_false (by omega)
      have HC2 := Aside0.mk c2
      clear c2
      cases hmay : (l0.all fun b => b.length == 512) with
      | true =>
        rw [if_pos ⟨c1.1, c1.2, HC2.out, hmay⟩] at h
        obtain ⟨rfl, rfl⟩ := Prod.mk.inj (Option.some.inj h)
        have HF := Aside0.mk hf
        have HMAY := Aside0.mk ((May_f l0).trans (congrArg some hmay))
        have HA := Aside0.mk c1
        have HALL := Aside0.mk hmay
        clear h hf c1 hmay hr0 hc0
        obtain ⟨b, rfl⟩ := Int.eq_ofNat_of_zero_le (show 0 ≤ a1 by have := HA.out.1; omega)
        rw [Int.toNat_natCast]
        gi_wp2_with (first | (gi_at_call 24; refine (callsIn_wide.2 (record_factor.calls (b : Int) true _ HF.out)).mono ?_; rintro e w' ⟨rfl, ⟨n1, rfl⟩⟩) | (gi_at_call 21; refine (callsIn_wide.2 (block_May.calls A0 c0 l0 true _ ?side1 HC.out HMAY.out)).mono ?_; (case side1 => repeat (first | exact Kd.C_below HR.out HB0.out | (with_reducible refine Kd.C_alloc ?_ _) | (with_reducible refine Kd.C_drewN ?_ _) | (with_reducible refine Kd.C_drew ?_))); rintro e w' ⟨rfl, ⟨n2, rfl⟩⟩) | (gi_at_call 25; refine (callsIn_wide.2 (chunkR_calls _ _ _ _ HA.out.1 _)).mono ?_; rintro e w' ⟨rfl, rfl⟩))
        have hU : ((w.alloc (.cells #[.int .i64 (b : Int)] 3)).drewN (n1 + n2)).heap.size = w.heap.size + 1 := by simp [World.drewN]
        have bO := Boxed.new ((w.alloc (.cells #[.int .i64 (b : Int)] 3)).drewN (n1 + n2)) 22 (.slice none 0 0)
        have bR := Boxed.new (((w.alloc (.cells #[.int .i64 (b : Int)] 3)).drewN (n1 + n2)).alloc (.cells #[.slice none 0 0] 22)) 22 (.slice A0 l0.length c0)
        have bC := Boxed.new ((((w.alloc (.cells #[.int .i64 (b : Int)] 3)).drewN (n1 + n2)).alloc (.cells #[.slice none 0 0] 22)).alloc (.cells #[.slice A0 l0.length c0] 22)) 3 (.int .i64 (b : Int))
        rw [hU] at bO
        rw [World.size_alloc, hU] at bR
        rw [World.size_alloc, World.size_alloc, hU] at bC
        have hBU : Below w.heap.size w (((((w.alloc (.cells #[.int .i64 (b : Int)] 3)).drewN (n1 + n2)).alloc (.cells #[.slice none 0 0] 22)).alloc (.cells #[.slice A0 l0.length c0] 22)).alloc (.cells #[.int .i64 (b : Int)] 3)) := below_alloc (below_alloc (below_alloc (pw_below_drewN HB0.out _) _) _) _
        have hbpos := HA.out.1
        have hbmax := HA.out.2
        have hb1 : 1 ≤ b := by omega
        have hb2 : b ≤ 20 := by omega
        refine range_all rfl (by omega) (gf := 34) (lb := #[.pointer (some ⟨w.heap.size + 1 + 1, 0, none⟩), .pointer (some ⟨w.heap.size + 1 + 1 + 1, 0, none⟩)]) rfl trivial (enters_of Try.func34 (by kernel_rfl) rfl)
          (partsOf l0.length b) (fun i => #[pieceV A0 l0.length b i]) (fun _ => rfl) (fun A A' => ∃ q, A' = A.drewN q) (fun _ => ChunkRR (w.heap.size + 1 + 1) (w.heap.size + 1 + 1 + 1) A0 l0.length c0 b)
          (fun l J W hJ hY h0 hr0 => chunkR_in Fence.wide _ trivial rfl (by omega) l _ _ A0 l0.length c0 b hb1 (by omega) (by have := HC2.out; omega) HC.out J hJ hY W h0 hr0)
          (fun A A' hs k o hk ho => by obtain ⟨q, rfl⟩ := hs; exact hk)
          (GroupI w l0 b) (GroupI.own w l0 b _ (by simp [World.drewN]; omega)) (fun i A B row h hg hr => ⟨boxed_noncells h.1 hg (fun r e => (hr r e).2), boxed_noncells h.2 hg (fun r e => (hr r e).2)⟩) (fun i A A' h hs => h.step hs)
          ⟨⟨_, (bO.alloc _).alloc _, Kd.S_nil _ _ _ _ _⟩, (((boxed_drewN HBN.out (n1 + n2)).alloc _).alloc _).alloc _, hBU⟩ ⟨bR.alloc _, bC⟩
          (fun i => { tmps := #[.slice A0 l0.length c0, .int .i64 (b : Int), undef, .pointer (some ⟨w.heap.size, 0, none⟩), .slice none 0 0, .bool false, .pointer (some ⟨w.heap.size + 1, 0, none⟩), pieceV A0 l0.length b i, undef, .int .i64 (b : Int), .bool true, .bool false, .bool false, .slice A0 l0.length c0, .int .i64 (l0.length : Int), .bool false, .bool false, .bool false, .slice A0 l0.length c0, .bool true, .bool false, .bool false, .slice A0 l0.length c0, .int .i64 (b : Int), .func (.func 34) #[] #[.pointer (some ⟨w.heap.size + 1 + 1, 0, none⟩), .pointer (some ⟨w.heap.size + 1 + 1 + 1, 0, none⟩)], pieceV A0 l0.length b i, undef, undef, undef, undef, undef, undef, undef, undef, undef, undef, undef, undef], defers := [] }) ?assign ?body ?done
        case assign =>
          intro l i W K hK
          gi_wp2
          exact hK
        case body =>
          rintro l i W hlt ⟨⟨v, hv, hS⟩, hbx, hB⟩ hrd
          have hilt := (parts_lt l0.length b i hb1).1 hlt
          -- the part
          obtain ⟨part, hpart⟩ : ∃ part, (l0.drop (b * i)).take b = part := ⟨_, rfl⟩
          have hpl : part.length = min b (l0.length - b * i) := by rw [← hpart, List.length_take, List.length_drop]
          have hprt : (l0.take (b * i + part.length)).drop (b * i) = part := by
            rw [List.drop_take, ← hpart, Nat.add_sub_cancel_left]
            apply List.ext_getElem?
            intro q
            rw [List.getElem?_take, List.getElem?_take]
            rw [hpart, hpl]
            rcases Nat.lt_or_ge q b with h1 | h1
            · rcases Nat.lt_or_ge q (l0.length - b * i) with h2 | h2
              · rw [if_pos (by omega), if_pos h1]
              · rw [if_neg (by omega), if_pos h1, List.getElem?_eq_none (by rw [List.length_drop]; exact h2)]
            · rw [if_neg (by omega), if_neg (by omega)]
          have hCp := Kd.C_mid (lo := b * i) (hi := b * i + part.length) (Kd.C_below HR.out hB) (by omega) (by omega) HC.out
          rw [hprt, if_neg (by have := HC.out; omega)] at hCp
          have hpv : pieceV A0 l0.length b i = .slice (A0.map (·.add (b * i))) part.length part.length := by unfold pieceV; rw [hpl]
          have hall : ∀ x ∈ part, x.length = 512 := by
            intro x hx
            rw [← hpart] at hx
            have h1 := List.mem_of_mem_drop (List.mem_of_mem_take hx)
            have h2 := List.all_eq_true.1 HALL.out x h1
            simpa using h2
          have hfl : part.flatten.length = 512 * part.length := by
            apply flat_all
            exact hall
          have hrec : recOf l0 b i = part.flatten ++ List.replicate (b * 512 - part.flatten.length) 0 := by unfold recOf; rw [hpart]
          have hbl : (recOf l0 b i).length = b * 512 := by rw [hrec, List.length_append, List.length_replicate]; omega
          simp only [hpv]
          have F26 : Fence.wide.fn 26 := trivial
          have hadr : (A0.map (·.add (b * i * (Kd.slice 5 (Kd.int .u8)).sz))) = A0.map (·.add (b * i)) := by rw [show (Kd.slice 5 (Kd.int .u8)).sz = 1 from rfl, Nat.mul_one]
          rw [hadr] at hCp
          obtain ⟨xs, hxs⟩ : ∃ xs, part.flatten = xs := ⟨_, rfl⟩
          have hjf : record_joined.f part = some xs := by unfold record_joined.f; rw [if_pos (by omega), hxs]
          rw [hxs] at hfl hrec
          have kmk := print_make 30 5 .u8 1 Try.underlying30 info5 (by omega) (b * 512) (by omega)
          rw [show ((b * 512 : Nat) : Int) = (b : Int) * 512 by omega] at kmk
          have q1 : (0 : Int) ≤ (b : Int) * 512 := by omega
          have q2 : (b : Int) * 512 ≤ 100000 := by omega
          have hcN := hbx.cell
          have hfN := hbx.frozen
          have hp0 : 0 < xs.length := by omega
          have hle : xs.length ≤ b * 512 := by omega
          have HCP := Aside0.mk (Kd.C_alloc hCp (.cells (madeCells #[.int .u8 0] (b * 512)) 5))
          have HJF := Aside0.mk hjf
          have HREC := Aside0.mk hrec
          have HBL := Aside0.mk hbl
          have HP0 := Aside0.mk hp0
          have HLE := Aside0.mk hle
          have HV := Aside0.mk hv
          have HS := Aside0.mk hS
          have HBX := Aside0.mk hbx
          have HBB := Aside0.mk hB
          have HRD := Aside0.mk hrd
          have HB2 := Aside0.mk hb2
          have HMADE := Aside0.mk (heap_alloc_new W (.cells (madeCells #[.int .u8 0] (b * 512)) 5))
          have HKA := Aside0.mk (KeepsOthers.alloc W (.cells (madeCells #[.int .u8 0] (b * 512)) 5))
          have HMANY := Aside0.mk (show (groupOf l0 b i).length + 1 ≤ 4001 by
            have h1 := HC2.out
            have h2 : i ≤ b * i := Nat.le_mul_of_pos_left _ (by omega)
            rw [groupOf_length]; omega)
          clear hxs hCp hjf hrec hbl hp0 hle hv hS hB hrd hall hfl hprt hpl hpart hilt hlt hadr hpv hbx bO bR bC hBU hbpos hbmax hb1 hb2 hU
          gi_wp2_with (first
            | (gi_at_call 26; refine (CallsIn.inRound l (callsIn_wide.2 (record_joined.calls _ _ part xs _ HCP.out (Nat.le_refl _) HJF.out))).mono ?_; rintro e W2 ⟨v31, rfl, hR31, hb31⟩; obtain ⟨A2, c2, he2, hl2, hC2⟩ := Kd.R_reads hR31; subst he2; obtain ⟨ad2, e2, _⟩ := hC2.2.2 HP0.out; subst e2; have HC31 := Aside0.mk hC2; have HBA := Aside0.mk (below_step (below_alloc (Below.refl W.heap.size W) (.cells (madeCells #[.int .u8 0] (b * 512)) 5)) hb31); have HMD := Aside0.mk ((hb31.block W.heap.size (by simp)).trans HMADE.out); have HK2 := Aside0.mk (HKA.out.trans (keeps_below hb31)); clear hR31 hl2 hC2 hb31)
            | (refine copyBytesIn rfl (.tmp 29) (.tmp 31) rfl W.heap.size (b * 512) HMD.out xs ad2 c2 HC31.out HLE.out rfl rfl ?_; intro W3 hb3 h3 hk3; rw [← HREC.out] at h3; have HBW := Aside0.mk (HBA.out.trans hb3); have H3 := Aside0.mk h3; have HK3 := Aside0.mk (HK2.out.trans hk3); have hcO := (boxed_same HV.out HBW.out).cell; have hfO := (boxed_same HV.out HBW.out).frozen; have HHV := Aside0.mk (boxed_same HV.out HBW.out); have HLE3 := Aside0.mk HBW.out.size; have HHB := Aside0.mk (below_step HBB.out HBW.out); have HNE := Aside0.mk (show some W.heap.size ≠ v.ownBlock from fun e => by have := Kd.S_lt HS.out _ e.symm; omega); have HHO := Aside0.mk (show Kd.S (Kd.slice 5 (Kd.int .u8)) 30 W3 w.heap.size (fun k => True ∧ ¬ k = W.heap.size) v (groupOf l0 b i) from Kd.S_mono (S_same HS.out HBW.out) (fun k hk => ⟨trivial, by have := hk.2; omega⟩)); have HHP := Aside0.mk (show (Kd.slice 5 (Kd.int .u8)).M W3 w.heap.size (fun k => k = W.heap.size) (recOf l0 b i) [.slice (some ⟨W.heap.size, 0, none⟩) (b * 512) (b * 512)] from Kd.M_row (Kd.R_of_own (enc := Value.int .u8) (h1 := fun _ => rfl) (own_rec HBB.out.size HBL.out (by have := HB2.out; omega) H3.out) (fun k hk => own_block_eq hk))); clear hb3 h3 hk3)
            | (gi_at_builtin; refine appendIn (Kd.slice 5 (Kd.int .u8)) (w0 := w) w.heap.size rfl (.tmp 33) (.tmp 35) 22 30 (.slice none 0 0) 24 rfl Try.underlying22 info30 rfl (by decide) (by omega) v (groupOf l0 b i) (recOf l0 b i) _ (fun _ => True) (fun k => k = W.heap.size) rfl rfl HHP.out (fun k hk => ⟨trivial, by rw [hk]; exact HNE.out⟩) (fun _ _ => trivial) HHO.out HHB.out (by have h1 := HLE3.out; have h2 := HBB.out.size; omega) (by have := HMANY.out; omega) ?_; intro v1 w1 hS1 hB1 hg1; obtain ⟨A1, c1, he1⟩ := Kd.S_slice hS1; subst he1; have hv1 := HHV.out.kept hg1 (Kd.S_ne HHO.out HHV.out (by decide)); have hc1 := hv1.cell; have hf1 := hv1.frozen; have HS1 := Aside0.mk hS1; have HB1 := Aside0.mk hB1; have HG1 := Aside0.mk hg1; clear hS1 hB1 hg1))
          have hu1 := (boxed_same HBX.out HBW.out).kept HG1.out (Kd.S_ne HHO.out (boxed_same HBX.out HBW.out) (by decide))
          have hr1 := (boxed_same HRD.out.1 HBW.out).kept HG1.out (Kd.S_ne HHO.out (boxed_same HRD.out.1 HBW.out) (by decide))
          have hr2 := (boxed_same HRD.out.2 HBW.out).kept HG1.out (Kd.S_ne HHO.out (boxed_same HRD.out.2 HBW.out) (by decide))
          refine ⟨?_, ⟨⟨_, hv1.set _, ?_⟩, hu1.other (by omega) _, ?_⟩, hr1.other (by omega) _, hr2.other (by omega) _⟩
          · refine ((HK3.out.trans (KeepsOthers.of_grownBy HG1.out fun j o ej hj => ?_)).trans (KeepsOthers.setCell _ _ _)).from _
            obtain ⟨cells, hcl⟩ := Kd.S_typed HHO.out j ej
            rw [hcl] at hj
            cases hj
            rfl
          · rw [groupOf_succ]
            have h2 := Kd.S_set HS1.out hv1 (by decide) 0 (.slice A1 ((groupOf l0 b i).length + 1) c1)
            rw [show (groupOf l0 b i ++ [recOf l0 b i]).length = (groupOf l0 b i).length + 1 by simp] at h2
            exact h2
          · exact HB1.out.setCell (p := ⟨w.heap.size + 1, 0, none⟩) (by simp) _
        case done =>
          rintro D W hD ⟨⟨v, hv, hS⟩, hbx, hB⟩ hK
          have hc := hv.cell
          have hf := hv.frozen
          have HS := Aside0.mk hS
          have HB := Aside0.mk hB
          have HD := Aside0.mk (show w.heap.size ≤ D by simp [World.drewN] at hD; omega)
          clear hS hB hD
          gi_wp2
          refine ⟨by simp, .inl ⟨_, _, rfl, run_takeDeferred hK, ?_⟩⟩
          exact ⟨_, results_tmp2 rfl _ _ _, v, rfl, S_noncells HS.out (grownBy_putObj' W D _) (fun r e => by cases e; exact ⟨_, hK, rfl⟩), HB.out.grown (grownBy_putObj' W D _) HB.out.size (fun k e => by cases e; exact HD.out)⟩
      | false =>
        rw [if_neg (by rw [hmay]; simp)] at h
        obtain ⟨rfl, rfl⟩ := Prod.mk.inj (Option.some.inj h)
        have HF := Aside0.mk hf
        have HMAY := Aside0.mk ((May_f l0).trans (congrArg some hmay))
        clear h hf c1 hmay hr0 hc0
        gi_wp2_with (first | (gi_at_call 24; refine (callsIn_wide.2 (record_factor.calls a1 true _ HF.out)).mono ?_; rintro e w' ⟨rfl, ⟨n1, rfl⟩⟩) | (gi_at_call 21; refine (callsIn_wide.2 (block_May.calls A0 c0 l0 false _ ?side1 HC.out HMAY.out)).mono ?_; (case side1 => repeat (first | exact Kd.C_below HR.out HB0.out | (with_reducible refine Kd.C_alloc ?_ _) | (with_reducible refine Kd.C_drewN ?_ _) | (with_reducible refine Kd.C_drew ?_))); rintro e w' ⟨rfl, ⟨n2, rfl⟩⟩))
        exact ⟨_, results_tmp2 rfl _ _ _, _, rfl, Kd.S_nil _ _ _ _ _, pw_below_drewN HB0.out _⟩
    · have b2 : decide (4000 < (l0.length : Int)) = true := decide_eq_true (by omega)
      rw [if_neg (fun hh => c2 hh.2.2.1)] at h
      obtain ⟨rfl, rfl⟩ := Prod.mk.inj (Option.some.inj h)
      have HF := Aside0.mk hf
      clear h hf c1 c2 hr0 hc0
      gi_wp2_with (gi_at_call 24; refine (callsIn_wide.2 (record_factor.calls a1 true _ HF.out)).mono ?_; rintro e w' ⟨rfl, ⟨n1, rfl⟩⟩)
      exact ⟨_, results_tmp2 rfl _ _ _, _, rfl, Kd.S_nil _ _ _ _ _, pw_below_drewN HB0.out _⟩
  · have hf : record_factor.f a1 = some false := by
      unfold record_factor.f
      by_cases c3 : a1 ≥ 1
      · rw [if_pos c3, decide_eq_false (by omega)]
      · rw [if_neg c3]
    rw [if_neg (fun hh => c1 ⟨hh.1, hh.2.1⟩)] at h
    obtain ⟨rfl, rfl⟩ := Prod.mk.inj (Option.some.inj h)
    have HF := Aside0.mk hf
    clear h hf c1 hr0 hc0
    gi_wp2_with (gi_at_call 24; refine (callsIn_wide.2 (record_factor.calls a1 false _ HF.out)).mono ?_; rintro e w' ⟨rfl, ⟨n1, rfl⟩⟩)
    exact ⟨_, results_tmp2 rfl _ _ _, _, rfl, Kd.S_nil _ _ _ _ _, pw_below_drewN HB0.out _⟩
end

end Go.Proofs.Ytckoafndhccomaa.M
