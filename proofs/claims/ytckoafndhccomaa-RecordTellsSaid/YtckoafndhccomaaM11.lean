/- Part of a claim: what some functions of the program compute, each with its contract; no condition of its own. Written by a program of this workplace (gen.py, over the print of the kit) and by hand. -/
import Derived.Test.YtckoafndhccomaaM0
import Derived.Test.YtckoafndhccomaaM1
import Derived.Test.YtckoafndhccomaaM3
import Derived.Test.YtckoafndhccomaaM4
import Derived.Test.YtckoafndhccomaaM6
import Derived.Test.YtckoafndhccomaaM8
import Derived.Test.YtckoafndhccomaaM10
namespace Go.Proofs.Ytckoafndhccomaa.M
open Go.RowKit Go.Proofs.YtckoafndhccomaaW.PrintWords Go.Proofs.YtckoafndhccomaaW.PrintLast Go.Proofs.YtckoafndhccomaaW.PrintMore
attribute [local go_sem] max2_int min2_int max_two min_two max_three min_three max_four min_four   -- for this text's walks alone
set_option linter.unusedVariables false
set_option linter.unusedSimpArgs false

/-! ### record_Blocks: function 14 -/
section
attribute [local go_sem] Oper.semAt_some
attribute [-go_sem] Builtin.append_
/-- The blocks of a record; of records. -/
def chunkAt (r : List Int) (i : Nat) : List Int := (r.drop (512 * i)).take 512
def chunksOf (r : List Int) (n : Nat) : List (List Int) := (List.range n).map (chunkAt r)
theorem chunksOf_succ (r : List Int) (n : Nat) : chunksOf r (n + 1) = chunksOf r n ++ [chunkAt r n] := by simp [chunksOf, List.range_succ]
def blocksOf (l : List (List Int)) : List (List Int) := (l.map fun r => chunksOf r (partsOf r.length 512)).flatten
def recMay (r : List Int) : Bool := decide (r.length % 512 = 0) && (decide (1 ≤ r.length / 512) && decide (r.length / 512 ≤ 20))
def record_Blocks.f (l0 : List (List Int)) : Option (List (List Int) × Bool) :=
  if l0.length ≤ 100000 then (if l0.all recMay = true then some (blocksOf l0, true) else some ([], false)) else none
theorem recMay_f (r : List Int) (hr : r.length ≤ 9223372036854775807) : record_May.f r = some (recMay r) := by
  unfold record_May.f record_factor.f recMay
  by_cases h1 : r.length % 512 = 0
  · rw [if_pos (by omega), show wrap64 ((r.length : Int) / 512) = ((r.length / 512 : Nat) : Int) by unfold wrap64; omega]
    by_cases h2 : 1 ≤ r.length / 512
    · rw [if_pos (by omega), Option.bind_some, decide_eq_true h1, decide_eq_true h2]
      by_cases h3 : r.length / 512 ≤ 20
      · rw [decide_eq_true h3, decide_eq_true (by omega)]; rfl
      · rw [decide_eq_false h3, decide_eq_false (by omega)]; rfl
    · rw [if_neg (by omega), Option.bind_some, decide_eq_true h1, decide_eq_false h2]; rfl
  · rw [if_neg (by omega), decide_eq_false h1]; rfl
def BlocksI (w : World) (ok : Nat → Prop) (acc : List (List Int)) (ds : List Nat) (W : World) : Prop :=
  (∃ v, Boxed W w.heap.size 22 v ∧ Kd.S (Kd.slice 5 (Kd.int .u8)) 30 W w.heap.size ok v acc) ∧ Below w.heap.size w W ∧ ∀ D ∈ ds, w.heap.size ≤ D ∧ W.heap[D]? = some (.deferred (some []))
theorem blocksOf_succ (l : List (List Int)) (i : Nat) (h : i < l.length) : blocksOf (l.take (i + 1)) = blocksOf (l.take i) ++ chunksOf (rdRow l (i : Int)) (partsOf (rdRow l (i : Int)).length 512) := by
  unfold blocksOf
  rw [List.take_add_one, List.getElem?_eq_getElem h, List.map_append, List.flatten_append]
  simp [rdRow, List.getD_eq_getElem?_getD, h]
theorem blocks_le : ∀ l : List (List Int), l.all recMay = true → (blocksOf l).length ≤ 20 * l.length
  | [], _ => Nat.le_refl _
  | a :: l, h => by
    rw [List.all_cons, Bool.and_eq_true] at h
    have h1 := blocks_le l h.2
    have h2 := h.1
    unfold recMay at h2
    rw [Bool.and_eq_true, Bool.and_eq_true, decide_eq_true_eq, decide_eq_true_eq, decide_eq_true_eq] at h2
    unfold blocksOf at h1 ⊢
    rw [List.map_cons, List.flatten_cons, List.length_append, List.length_cons]
    have h3 : (chunksOf a (partsOf a.length 512)).length = partsOf a.length 512 := by simp [chunksOf]
    unfold partsOf at h3
    unfold partsOf at h1 ⊢
    omega
theorem clone_M {W W2 : World} {base : Nat} {v : Value} {xs : List Int} (h : (Kd.int .u8).R 5 W2 W.heap.size (fun _ => True) v xs) (hb : base ≤ W.heap.size) :
    (Kd.slice 5 (Kd.int .u8)).M W2 base (fun k => v.ownBlock = some k) xs [v] :=
  Kd.M_row (Kd.R_lower (Kd.R_of_own (enc := Value.int .u8) (h1 := fun _ => rfl) (Kd.own_of_R h) (fun _ hk => hk)) hb)
theorem BlocksI.step {w : World} {ok : Nat → Prop} {acc : List (List Int)} {ds : List Nat} {A A' : World} (h : BlocksI w ok acc ds A) (hs : ∃ q, A' = A.drewN q) : BlocksI w ok acc ds A' := by
  obtain ⟨⟨v, hv, hS⟩, hB, hd⟩ := h
  obtain ⟨q, rfl⟩ := hs
  exact ⟨⟨v, hv, Kd.S_drewN hS q⟩, pw_below_drewN hB q, hd⟩
theorem BlocksI.grown {w : World} {ok : Nat → Prop} {acc : List (List Int)} {ds : List Nat} {A B : World} {row : Option Nat} {n : Nat} (hn : w.heap.size ≤ n) (h : BlocksI w ok acc ds A) (hg : A.grownBy B row) (hr : ∀ r, row = some r → n ≤ r ∧ ∃ o : Obj, A.heap[r]? = some o ∧ o.isCells = false) (hd' : ∀ D ∈ ds, D < n) : BlocksI w ok acc ds B := by
  have hr' : ∀ r, row = some r → ∃ o : Obj, A.heap[r]? = some o ∧ o.isCells = false := fun r e => (hr r e).2
  obtain ⟨⟨v, hv, hS⟩, hB, hd⟩ := h
  refine ⟨⟨v, boxed_noncells hv hg hr', S_noncells hS hg hr'⟩, hB.grown hg hB.size (fun k e => Nat.le_trans hn (hr k e).1), fun D hD => ⟨(hd D hD).1, ?_⟩⟩
  have h1 := (hd D hD).2
  refine (hg.block D (Array.getElem?_eq_some_iff.1 h1).1 (fun e => ?_)).trans h1
  have h2 := (hr D e.symm).1
  have h3 := hd' D hD
  omega
theorem BlocksI.fresh {w : World} {acc : List (List Int)} {ds : List Nat} {A : World} (h : BlocksI w (fun _ => True) acc ds A) : BlocksI w (fun k => k ≠ A.heap.size) acc ds A := by
  obtain ⟨⟨v, hv, hS⟩, hB, hd⟩ := h
  exact ⟨⟨v, hv, Kd.S_mono (Kd.S_bound hS) (fun k hk => Nat.ne_of_lt hk.2.2.1)⟩, hB, hd⟩
theorem BlocksI.alloc {w : World} {ok : Nat → Prop} {acc : List (List Int)} {ds : List Nat} {A : World} (h : BlocksI w ok acc ds A) (o : Obj) : BlocksI w ok acc ds (A.alloc o) := by
  obtain ⟨⟨v, hv, hS⟩, hB, hd⟩ := h
  refine ⟨⟨v, hv.alloc _, Kd.S_alloc hS _⟩, below_alloc hB _, fun D hD => ⟨(hd D hD).1, ?_⟩⟩
  exact (Below.heap_alloc _ _ _ (Array.getElem?_eq_some_iff.1 (hd D hD).2).1).trans (hd D hD).2
set_option maxHeartbeats 8000000 in
set_option maxRecDepth 100000 in
theorem record_Blocks.calls (A0 : Option Addr) (c0 : Nat) (l0 : List (List Int)) (r1 : List (List Int)) (r2 : Bool) (w : World) (hr0 : Kd.C (Kd.slice 5 (Kd.int .u8)) w A0 l0.length l0) (hc0 : l0.length ≤ c0) (h : record_Blocks.f l0 = some (r1, r2)) :
    Calls Try.prog 14 #[.slice A0 l0.length c0] w fun e w' => ∃ v0_ : Value, e = .returned (.tuple #[v0_, .bool r2]) ∧ Kd.S (Kd.slice 5 (Kd.int .u8)) 30 w' w.heap.size (fun _ => True) v0_ r1 ∧ Below w.heap.size w w' := by
  have HR := Aside0.mk hr0
  have HC := Aside0.mk hc0
  unfold record_Blocks.f at h
  by_cases hlen : l0.length ≤ 100000
  · rw [if_pos hlen] at h
    have HL := Aside0.mk hlen
    have HH := Aside0.mk h
    clear hr0 hc0 h hlen
    have F18 : Fence.wide.fn 18 := trivial
    have F28 : Fence.wide.fn 28 := trivial
    have F29 : Fence.wide.fn 29 := trivial
    refine (callsIn_wide (n := 5)).1 ?_
    refine callsIn_of_wp_marks Try.func14 rfl trivial ?_ rfl
    simp only [Try.ntmps14, List.size_toArray, List.length_cons, List.length_nil, Nat.reduceAdd, Nat.reduceSub, Array.replicate_succ, Array.replicate_zero, List.push_toArray, List.append_toArray, List.nil_append, List.cons_append]
    gi_wp2
    have bO := Boxed.new w 22 (.slice none 0 0)
    have hB0 : Below w.heap.size w (w.alloc (.cells #[.slice none 0 0] 22)) := (Below.refl _ w).alloc (Nat.le_refl _) _
    refine wpIn_loop (fun a' W => ∃ (x8 : Int) (ds : List Nat) (u6 u7 u11 u12 u13 u14 u15 u16 u17 u18 u19 u20 u21 u22 u23 u24 u25 : Value), a' = { tmps := #[.slice A0 l0.length c0, undef, .slice none 0 0, .bool false, .pointer (some ⟨w.heap.size, 0, none⟩), undef, u6, u7, .slice A0 l0.length c0, .int .i64 (l0.length : Int), .int .i64 x8, u11, u12, u13, u14, u15, u16, u17, u18, u19, u20, u21, u22, u23, u24, u25, undef], defers := marks ds } ∧ 0 ≤ x8 ∧ x8 ≤ l0.length ∧ ds.Nodup ∧ BlocksI w (fun _ => True) (blocksOf (l0.take x8.toNat)) ds W ∧ (l0.take x8.toNat).all recMay = true) (fun a' _ => l0.length - intOf (a'.tmps.getD 10 undef)) ⟨0, [], undef, undef, undef, undef, undef, undef, undef, undef, undef, undef, undef, undef, undef, undef, undef, undef, undef, rfl, by omega, by omega, List.nodup_nil, ⟨⟨_, bO, Kd.S_nil _ _ _ _ _⟩, hB0, fun D hD => by cases hD⟩, rfl⟩ ?_
    rintro a' W ⟨x8, ds, u6, u7, u11, u12, u13, u14, u15, u16, u17, u18, u19, u20, u21, u22, u23, u24, u25, rfl, p1, p2, hnd, hI, hall⟩
    clear bO hB0
    by_cases c2 : x8 < (l0.length : Int)
    · have c2b0 : decide (x8 < (l0.length : Int)) = true := decide_eq_true c2
      obtain ⟨ad, A1, c1, e1, hx0, hl1, hi0⟩ := at_row HR.out x8 p1 c2
      cases e1
      have hx1 := (hI.2.1.cell (World.block_lt_of_cell? w _ hx0)).trans hx0
      have HX := Aside0.mk (show x8.toNat < l0.length by omega)
      have hrow := blocksOf_succ l0 x8.toNat HX.out
      have hall2 : (l0.take (x8.toNat + 1)).all recMay = ((l0.take x8.toNat).all recMay && recMay (rdRow l0 x8)) := by
        rw [List.take_add_one, List.getElem?_eq_getElem HX.out, List.all_append]
        simp [rdRow, List.getD_eq_getElem?_getD, HX.out]
      rw [Int.toNat_of_nonneg p1] at hrow
      obtain ⟨r, hr⟩ : ∃ r, rdRow l0 x8 = r := ⟨_, rfl⟩
      rw [hr] at hx1 hl1 hi0 hrow hall2
      have hmf := recMay_f r hi0.2.1
      have p3 : x8 ≤ 9223372036854775806 := by have := HL.out; omega
      have HT := Aside0.mk c2
      have HP1 := Aside0.mk p1
      have HI0 := Aside0.mk hi0
      have HI := Aside0.mk hI
      have HND := Aside0.mk hnd
      have HROW := Aside0.mk hrow
      have HALL := Aside0.mk hall
      have HALL2 := Aside0.mk hall2
      replace c2 := eq_true c2
      replace p1 := eq_true p1
      clear hx0 hi0 hI hnd hrow hall hall2 hr p2
      cases hrm : recMay r with
      | true =>
        have HMF := Aside0.mk (hmf.trans (congrArg some hrm))
        have HRM := Aside0.mk hrm
        clear hmf hrm
        gi_wp2_with (first | (gi_at_call 18; refine (callsIn_wide.2 (record_May.calls A1 c1 r true _ (Kd.C_below HI0.out HI.out.2.1) hl1 HMF.out)).mono ?_; rintro e w' ⟨rfl, ⟨n1, rfl⟩⟩) | (gi_at_call 28; refine (callsIn_wide.2 (chunkB_calls _ _ _ _ (by omega) _)).mono ?_; rintro e w' ⟨rfl, rfl⟩))
        have hU : (W.drewN n1).heap.size = W.heap.size := rfl
        have bR := Boxed.new (W.drewN n1) 30 (.slice A1 r.length c1)
        have bC := Boxed.new ((W.drewN n1).alloc (.cells #[.slice A1 r.length c1] 30)) 3 (.int .i64 ((512 : Nat) : Int))
        rw [hU] at bR
        rw [World.size_alloc, hU] at bC
        have hr512 : r.length % 512 = 0 ∧ 1 ≤ r.length / 512 ∧ r.length / 512 ≤ 20 := by
          have := HRM.out
          unfold recMay at this
          rw [Bool.and_eq_true, Bool.and_eq_true, decide_eq_true_eq, decide_eq_true_eq, decide_eq_true_eq] at this
          exact this
        have hdlt : ∀ D ∈ ds, D < W.heap.size := fun D hD => (Array.getElem?_eq_some_iff.1 (HI.out.2.2 D hD).2).1
        refine range_all rfl (by omega) (gf := 36) (lb := #[.pointer (some ⟨W.heap.size, 0, none⟩), .pointer (some ⟨W.heap.size + 1, 0, none⟩)]) rfl trivial (enters_of Try.func36 (by kernel_rfl) rfl)
          (partsOf r.length 512) (fun i => #[pieceV A1 r.length 512 i]) (fun _ => rfl) (fun A A' => ∃ q, A' = A.drewN q) (fun _ => ChunkBR W.heap.size (W.heap.size + 1) A1 r.length c1 512)
          (fun l J W' hJ hY h0 hr0 => chunkB_in Fence.wide _ trivial rfl (by omega) l _ _ A1 r.length c1 512 (by omega) (by omega) (by omega) hl1 J hJ hY W' h0 hr0)
          (fun A A' hs k o hk ho => by obtain ⟨q, rfl⟩ := hs; exact hk)
          (fun i => BlocksI w (fun k => k ≠ W.heap.size) (blocksOf (l0.take x8.toNat) ++ chunksOf r i) ds) (fun i A B row h hg hr => h.grown (n := (((W.drewN n1).alloc (.cells #[.slice A1 r.length c1] 30)).alloc (.cells #[.int .i64 512] 3)).heap.size) (by have := HI.out.2.1.size; simp [World.drewN]; omega) hg hr (fun D hD => by have := hdlt D hD; simp [World.drewN]; omega))
          (fun i A B row h hg hr => ⟨boxed_noncells h.1 hg (fun r e => (hr r e).2), boxed_noncells h.2 hg (fun r e => (hr r e).2)⟩) (fun i A A' h hs => h.step hs)
          (by show BlocksI w _ (blocksOf (l0.take x8.toNat) ++ []) ds _; rw [List.append_nil]; exact ((HI.out.fresh.step ⟨n1, rfl⟩).alloc _).alloc _) ⟨bR.alloc _, bC⟩
          (fun i => { tmps := #[.slice (some ad) l0.length c0, undef, .slice none 0 0, .bool false, .pointer (some ⟨w.heap.size, 0, none⟩), undef, .slice A1 r.length c1, pieceV A1 r.length 512 i, .slice (some ad) l0.length c0, .int .i64 (l0.length : Int), .int .i64 x8, .bool true, .pointer (some (ad.add x8.toNat)), .slice A1 r.length c1, .slice A1 r.length c1, .bool true, .bool false, .slice A1 r.length c1, .func (.func 36) #[] #[.pointer (some ⟨W.heap.size, 0, none⟩), .pointer (some ⟨W.heap.size + 1, 0, none⟩)], pieceV A1 r.length 512 i, u20, u21, u22, u23, u24, u25, undef], defers := [] }) ?assign ?body ?done
        case assign =>
          intro l i W' K hK
          gi_wp2
          exact hK
        case body =>
          rintro l i W' hlt ⟨⟨v, hv, hS⟩, hB, hds⟩ hrd
          have hilt := (parts_lt r.length 512 i (by omega)).1 hlt
          obtain ⟨ad1, e1, _⟩ := HI0.out.2.2 (by omega)
          cases e1
          obtain ⟨part, hpart⟩ : ∃ part, chunkAt r i = part := ⟨_, rfl⟩
          have hpl : part.length = min 512 (r.length - 512 * i) := by rw [← hpart]; unfold chunkAt; rw [List.length_take, List.length_drop]
          have hpl2 : part.length = 512 := by omega
          have hprt : (r.take (512 * i + 512)).drop (512 * i) = part := by
            rw [List.drop_take, Nat.add_sub_cancel_left, ← hpart]; rfl
          have hCp := Kd.C_mid (lo := 512 * i) (hi := 512 * i + 512) (Kd.C_below HI0.out hB) (by omega) (by omega) hl1
          rw [hprt, if_neg (by omega), show (Kd.int .u8).sz = 1 from rfl, Nat.mul_one] at hCp
          have hpv : pieceV (some ad1) r.length 512 i = .slice (some (ad1.add (512 * i))) part.length part.length := by unfold pieceV; rw [hpl]; rfl
          simp only [hpv]
          have F29 : Fence.wide.fn 29 := trivial
          have hmix : Try.prog.follows .mixedOrders = true := by kernel_rfl
          obtain ⟨Av, cv, ev⟩ := Kd.S_slice hS
          subst ev
          have hcV : W'.drew.cell? ⟨w.heap.size, 0, none⟩ = _ := hv.cell
          have hfV : W'.drew.frozen? ⟨w.heap.size, 0, none⟩ = _ := hv.frozen
          have HCP := Aside0.mk (show Kd.C (Kd.int .u8) W'.drew (some (ad1.add (512 * i))) part.length part from Kd.C_drew hCp)
          have HPL := Aside0.mk (show part.length ≤ 1000000 by omega)
          have HPP := Aside0.mk hpart
          have HV := Aside0.mk hv
          have HS := Aside0.mk hS
          have HBB := Aside0.mk hB
          have HDS := Aside0.mk hds
          have HRD := Aside0.mk hrd
          have HLAST := Aside0.mk (show chunksOf r (i + 1) = chunksOf r i ++ [part] by rw [chunksOf_succ, hpart])
          have hacc : (blocksOf (l0.take x8.toNat) ++ chunksOf r i).length ≤ 3000000 := by
            have h1 := HALL.out
            have h2 := HX.out
            have h3 := HL.out
            have h4 : (blocksOf (l0.take x8.toNat)).length ≤ 20 * (l0.take x8.toNat).length := blocks_le _ h1
            rw [List.length_append, show (chunksOf r i).length = i by simp [chunksOf]]
            have h5 : (l0.take x8.toNat).length ≤ 100000 := by rw [List.length_take]; omega
            have h6 : r.length ≤ 12000 := by omega
            omega
          obtain ⟨acc, hac⟩ : ∃ acc, blocksOf (l0.take x8.toNat) ++ chunksOf r i = acc := ⟨_, rfl⟩
          rw [hac] at hacc
          have HACC := Aside0.mk hac
          have HACL := Aside0.mk hacc
          have HSA : Aside0 (Kd.S (Kd.slice 5 (Kd.int .u8)) 30 W' w.heap.size (fun k => k ≠ W.heap.size) (.slice Av acc.length cv) acc) := ⟨by rw [← hac]; exact hS⟩
          rw [hac] at hcV hv
          have HVA := Aside0.mk hv
          clear hCp hpart hpl hpl2 hprt hv hS hB hds hrd hilt hlt hpv hacc hac HV HS hr512 hdlt bR bC
          gi_wp2
          gi_region_with_o ((gi_at_call 29; refine (CallsIn.inRound l (callsIn_wide.2 (clone_bytes (ad1.add (512 * i)) part.length part _ HCP.out HPL.out))).mono ?_; rintro e W2 ⟨v22, rfl, hR22, hb22⟩; obtain ⟨A2, c2_, he2⟩ := Kd.R_slice hR22; subst he2; have hBW := below_step (Below.drew (Below.refl W'.heap.size W')) hb22; have hv2 := boxed_same HVA.out hBW; have hcO := hv2.cell; have hfO := hv2.frozen; have hcO2 := (hv2.alloc (.cells #[.slice A2 part.length c2_] 30)).cell; obtain ⟨v1, w1, hrun, hS1, hB1, hg1⟩ := append_run (P := Try.prog) (Kd.slice 5 (Kd.int .u8)) (w0 := w) w.heap.size 22 22 30 (.slice none 0 0) 24 Try.underlying22 info30 rfl (by decide) (by omega) (.slice Av acc.length cv) acc part [.slice A2 part.length c2_] (fun k => k ≠ W.heap.size) (fun k => (Value.slice A2 part.length c2_).ownBlock = some k) (clone_M hR22 HBB.out.size) (fun k hk => ⟨by have h2 : W'.heap.size ≤ k := Kd.R_base hR22 _ hk; have h3 := HRD.out.1.lt; omega, fun e => by have h1 := Kd.S_lt HSA.out _ e.symm; have h2 : W'.heap.size ≤ k := Kd.R_base hR22 _ hk; omega⟩) (fun k hk => by have h3 := HRD.out.1.lt; have h4 := hBW.size; omega) (Kd.S_mono (S_same HSA.out hBW) (fun k hk => ⟨hk.1, fun e => by have h1 := hk.2; have h2 : W'.heap.size ≤ k := Kd.R_base hR22 _ e; omega⟩)) (below_step HBB.out hBW) (by have h1 := HBB.out.size; have h2 := hBW.size; omega) (by have := HACL.out; omega); obtain ⟨A3, c3, he3⟩ := Kd.S_slice hS1; subst he3; change (Builtin.append_ #[22, 22] 22 #[.slice Av acc.length cv, .slice (some ⟨W2.heap.size, 0, none⟩) 1 1]).run Try.prog (W2.alloc (.cells #[.slice A2 part.length c2_] 30)) = .ok (.slice A3 (acc ++ [part]).length c3) w1 at hrun; have hv1 := hv2.kept hg1 (Kd.S_ne (S_same HSA.out hBW) hv2 (by decide)); have hc1 := hv1.cell; have hf1 := hv1.frozen; have HS1 := Aside0.mk hS1; have HB1 := Aside0.mk hB1; have HG1 := Aside0.mk hg1; have HBW := Aside0.mk hBW; have HV1 := Aside0.mk hv1; clear hR22 hb22 hBW hv2 hS1 hB1 hg1 hv1))
          all_goals (
            have hs2 := S_same HSA.out HBW.out
            have hr1 := (boxed_same HRD.out.1 HBW.out).kept HG1.out (fun e => (Kd.S_R HSA.out).1 _ e.symm rfl)
            have hr2 := (boxed_same HRD.out.2 HBW.out).kept HG1.out (Kd.S_ne hs2 (boxed_same HRD.out.2 HBW.out) (by decide))
            have hlen1 : (acc ++ [part]).length = acc.length + 1 := by simp
            have h2 := Kd.S_set HS1.out HV1.out (by decide) 0 (.slice A3 (acc.length + 1) c3)
            rw [hlen1] at h2
            refine ⟨?_, ⟨⟨_, HV1.out.set _, ?_⟩, ?_, fun D hD => ⟨(HDS.out D hD).1, ?_⟩⟩, hr1.other (by have := HI.out.1; obtain ⟨v', hv', _⟩ := this; have := hv'.lt; omega) _, hr2.other (by have := HI.out.1; obtain ⟨v', hv', _⟩ := this; have := hv'.lt; omega) _⟩
            · refine (((keeps_below HBW.out).trans (KeepsOthers.of_grownBy HG1.out fun j o ej hj => ?_)).trans (KeepsOthers.setCell _ _ _)).from _
              obtain ⟨cells, hcl⟩ := Kd.S_typed hs2 j ej
              rw [hcl] at hj
              cases hj
              rfl
            · rw [HLAST.out, ← List.append_assoc, HACC.out]
              exact h2
            · exact HB1.out.setCell (p := ⟨w.heap.size, 0, none⟩) (Nat.le_refl _) _
            · refine (((keeps_below HBW.out).trans (KeepsOthers.of_grownBy HG1.out fun j o ej hj => ?_)).trans (KeepsOthers.setCell _ _ _)).same D _ (HDS.out D hD).2 rfl
              obtain ⟨cells, hcl⟩ := Kd.S_typed hs2 j ej
              rw [hcl] at hj
              cases hj
              rfl)
        case done =>
          rintro D W' hD hI2 hK
          have HI2 := Aside0.mk hI2
          have HD := Aside0.mk (show W.heap.size ≤ D by simp [World.drewN] at hD; omega)
          have HK := Aside0.mk hK
          have HDL := Aside0.mk hdlt
          have hxn : wrap64 (x8 + 1) = x8 + 1 := by have := HP1.out; unfold wrap64; omega
          clear hI2 hD hK hdlt bR bC
          gi_wp2
          rw [hxn]
          have hx1 : (x8 + 1).toNat = x8.toNat + 1 := by have := HP1.out; omega
          obtain ⟨⟨v, hv, hS⟩, hB2, hds2⟩ := HI2.out
          refine ⟨⟨x8 + 1, D :: ds, _, _, _, _, _, _, _, _, _, _, _, _, _, _, _, _, _, rfl, by have := HP1.out; omega, by have := HT.out; omega, List.nodup_cons.2 ⟨fun hm => by have h1 := HDL.out D hm; have h2 := HD.out; omega, HND.out⟩, ⟨⟨v, hv, ?_⟩, hB2, ?_⟩, ?_⟩, ?_⟩
          · rw [hx1, HROW.out]
            exact Kd.S_mono hS (fun _ _ => trivial)
          · intro D' hD'
            rcases List.mem_cons.1 hD' with h1 | h1
            · rw [h1]
              exact ⟨by have h2 := HD.out; have h3 := HI.out.2.1.size; omega, HK.out⟩
            · exact hds2 D' h1
          · rw [hx1, HALL2.out, HALL.out, HRM.out]; rfl
          · have h1 := HT.out
            have h2 := HP1.out
            simp only [intOf, Array.getD, List.size_toArray, List.length_cons, List.length_nil]
            simp
            omega
      | false =>
        have HMF := Aside0.mk (hmf.trans (congrArg some hrm))
        have HRM := Aside0.mk hrm
        have HHX := Aside0.mk (show r1 = [] ∧ r2 = false by
          have h1 := HH.out
          rw [if_neg (fun hh => by
            have h2 := HALL2.out
            rw [HRM.out, Bool.and_false] at h2
            have h3 : (l0.take (x8.toNat + 1)).all recMay = true := by
              rw [List.all_eq_true] at hh ⊢
              exact fun y hy => hh y (List.mem_of_mem_take hy)
            rw [h2] at h3; cases h3)] at h1
          exact ⟨(Prod.mk.inj (Option.some.inj h1)).1.symm, (Prod.mk.inj (Option.some.inj h1)).2.symm⟩)
        clear hmf hrm
        gi_wp2_with (gi_at_call 18; refine (callsIn_wide.2 (record_May.calls A1 c1 r false _ (Kd.C_below HI0.out HI.out.2.1) hl1 HMF.out)).mono ?_; rintro e w' ⟨rfl, ⟨n1, rfl⟩⟩)
        obtain ⟨rfl, rfl⟩ := HHX.out
        exact leaves_marks w.heap.size (fun A => Below w.heap.size w A) (fun A D hge hA hD => hA.grown (grownBy_putObj' A D _) hA.size (fun k e => by cases e; exact hge)) (fun A hA => ⟨_, results_tmp2 rfl _ _ _, _, rfl, Kd.S_nil _ _ _ _ _, hA⟩) ds _ HND.out HI.out.2.2 (pw_below_drewN HI.out.2.1 _)
    · have c2b0 : decide (x8 < (l0.length : Int)) = false := decide_eq_false c2
      have hxl : l0.take x8.toNat = l0 := List.take_of_length_le (by omega)
      have HHX : r1 = blocksOf l0 ∧ r2 = true := by
        have h1 := HH.out
        rw [hxl] at hall
        rw [if_pos hall] at h1
        exact ⟨(Prod.mk.inj (Option.some.inj h1)).1.symm, (Prod.mk.inj (Option.some.inj h1)).2.symm⟩
      rw [hxl] at hI
      obtain ⟨⟨v, hv, hS⟩, hB, hds⟩ := hI
      obtain ⟨rfl, rfl⟩ := HHX
      have hcV := hv.cell
      have hfV := hv.frozen
      have HS := Aside0.mk hS
      have HB := Aside0.mk hB
      have HDS := Aside0.mk hds
      have HND := Aside0.mk hnd
      clear hS hB hds hnd c2 p1 p2 hall hxl
      gi_wp2
      exact leaves_marks w.heap.size (fun A => Kd.S (Kd.slice 5 (Kd.int .u8)) 30 A w.heap.size (fun _ => True) v (blocksOf l0) ∧ Below w.heap.size w A) (fun A D hge hA hD => ⟨S_noncells hA.1 (grownBy_putObj' A D _) (fun r e => by cases e; exact ⟨_, hD, rfl⟩), hA.2.grown (grownBy_putObj' A D _) hA.2.size (fun k e => by cases e; exact hge)⟩) (fun A hA => ⟨_, results_tmp2 rfl _ _ _, _, rfl, hA.1, hA.2⟩) ds _ HND.out HDS.out ⟨HS.out, HB.out⟩
  · rw [if_neg hlen] at h; cases h
end

end Go.Proofs.Ytckoafndhccomaa.M
