/- Part of a claim: what some functions of the program compute, each with its contract; no condition of its own. Written by a program of this workplace (gen.py, over the print of the kit) and by hand. -/
import Derived.Test.YtdbnglmcimckmaaM0
import Derived.Test.YtdbnglmcimckmaaM1
import Derived.Test.YtdbnglmcimckmaaM3
namespace Go.Proofs.Ytdbnglmcimckmaa.M
open Go.RowKit Go.Proofs.YtdbnglmcimckmaaW.PrintWords Go.Proofs.YtdbnglmcimckmaaW.PrintLast Go.Proofs.YtdbnglmcimckmaaW.PrintMore
attribute [local go_sem] max2_int min2_int max_two min_two max_three min_three max_four min_four   -- for this text's walks alone
set_option linter.unusedVariables false
set_option linter.unusedSimpArgs false

/-! ### block_Cut: function 15 -/
section
attribute [local go_sem] Oper.semAt_some
/-! ### block.pieces, its iterator, block.Cut -/
def restS (s : ByteArray) (i : Nat) : ByteArray := ⟨(s.data.toList.drop (512 * i)).toArray⟩
def pieceS (s : ByteArray) (i : Nat) : ByteArray := ⟨((s.data.toList.drop (512 * i)).take 512).toArray⟩
def manyS (s : ByteArray) : Nat := (s.size + 511) / 512
theorem bytes_ext {a b : ByteArray} (h : a.data.toList = b.data.toList) : a = b := by
  cases a; cases b
  congr 1
  exact Array.ext' h
theorem ext_data (s : ByteArray) (a b : Nat) : (s.extract a b).data.toList = (s.data.toList.drop a).take (b - a) := by
  rw [ByteArray.data_extract, Array.toList_extract, List.extract_eq_take_drop]
theorem rest_size (s : ByteArray) (i : Nat) : (restS s i).size = s.size - 512 * i := by
  show (restS s i).data.size = s.data.size - 512 * i
  simp [restS]
theorem rest_next (s : ByteArray) (i : Nat) (h : 512 < (restS s i).size) : (restS s i).extract 512 (restS s i).size = restS s (i + 1) := by
  apply bytes_ext
  rw [ext_data, List.take_of_length_le (by rw [List.length_drop, data_length]; exact Nat.le_refl _)]
  simp [restS, List.drop_drop, Nat.mul_add]
theorem rest_end (s : ByteArray) (i : Nat) (h : (restS s i).size ≤ 512) : restS s (i + 1) = ⟨#[]⟩ := by
  apply bytes_ext
  have : (restS s (i + 1)).data.toList.length = 0 := by
    have h1 := rest_size s (i + 1)
    have h2 := rest_size s i
    rw [data_length]
    omega
  exact List.eq_nil_of_length_eq_zero this
theorem piece_big (s : ByteArray) (i : Nat) : (restS s i).extract 0 512 = pieceS s i := by
  apply bytes_ext
  rw [ext_data]
  simp [restS, pieceS]
theorem piece_small (s : ByteArray) (i : Nat) (h : (restS s i).size ≤ 512) : pieceS s i = restS s i := by
  apply bytes_ext
  have : s.data.toList.length - 512 * i ≤ 512 := by rw [data_length]; rw [rest_size] at h; exact h
  simp only [restS, pieceS]
  rw [List.take_of_length_le (by rw [List.length_drop]; exact this)]
theorem many_lt (s : ByteArray) (i : Nat) : i < manyS s ↔ 0 < (restS s i).size := by
  rw [rest_size]; unfold manyS; omega
theorem empty_of (s : ByteArray) (h : ¬ 0 < s.size) : s.toList.isEmpty = true ∧ s.toList = [] := by
  have h1 : s.data.toList.length = 0 := by rw [data_length]; omega
  have h2 : s.data.toList = [] := List.eq_nil_of_length_eq_zero h1
  have h3 : s = ⟨#[]⟩ := bytes_ext h2
  subst h3
  exact ⟨by simp, by simp⟩
theorem full_of (s : ByteArray) (h : 0 < s.size) : s.toList.isEmpty = false ∧ (!s.toList.isEmpty) = true ∧ s.toList ≠ [] := by
  have : s.toList ≠ [] := by
    intro e
    have h1 : s.toList = s.data.toList := ByteArray.toList_eq s
    rw [e] at h1
    have h2 := data_length s
    rw [← h1] at h2
    simp at h2
    omega
  refine ⟨?_, ?_, this⟩ <;> simp [this]
open Classical in
noncomputable def boxLen (B : Nat) (W : World) : Nat := match W.cell? ⟨B, 0, none⟩ with
  | some (.string s) => s.size
  | _ => 0
theorem pieces_in (F : Fence) (n : Nat) (hF : F.fn 36) (hro : F.round = none) (hn : 1 ≤ n) (l B : Nat) (s : ByteArray) (hs : s.size ≤ 140737488355328) (J : Nat → World → Prop)
    (hJ : ∀ i A A', J i A → (∃ u, A' = A.setCell ⟨B, 0, none⟩ u) → J i A')
    (hY : ∀ i A, i < manyS s → J i A → Boxed A B 9 (.string (restS s i)) → YieldAt F (n - 1) Try.prog l #[.string (pieceS s i)] A fun e A' => e = .returned (.bool true) ∧ J (i + 1) A' ∧ Boxed A' B 9 (.string (restS s i)))
    (W : World) (h0 : J 0 W) (hB : Boxed W B 9 (.string (restS s 0))) :
    CallsIn F n Try.prog 36 #[.func (.yield l) #[] #[], .pointer (some ⟨B, 0, none⟩)] W fun e A' => (∃ v, e = .returned v) ∧ J (manyS s) A' := by
  refine callsIn_of_wp Try.func36 rfl hF ?_ hro
  simp only [Try.ntmps36, List.size_toArray, List.length_cons, List.length_nil, Nat.reduceAdd, Nat.reduceSub, Array.replicate_succ, Array.replicate_zero, List.push_toArray, List.append_toArray, List.nil_append, List.cons_append]
  gi_wp2
  gi_loopw [3] (fun _ wr => ∃ i : Nat, i ≤ manyS s ∧ Aside0 (J i wr) ∧ Aside0 (Boxed wr B 9 (.string (restS s i)))) (fun _ wr => boxLen B wr)
  case atStart => exact ⟨0, Nat.zero_le _, ⟨h0⟩, ⟨hB⟩⟩
  case round =>
    obtain ⟨i, hi, HJ, HB⟩ := hrel
    by_cases hlt : i < manyS s
    · have hc := HB.out.cell
      have hf := HB.out.frozen
      have hpos := (many_lt s i).1 hlt
      obtain ⟨f1, f2, f3⟩ := full_of _ hpos
      have HS := Aside0.mk (rest_size s i)
      have hbd : ((restS s i).size : Int) ≤ 140737488355328 := by rw [rest_size]; omega
      obtain ⟨fn, tmps, assign, body, hy, hR⟩ := hY i wr hlt HJ.out HB.out
      clear f3 hpos hY
      have HR := Aside0.mk hR
      clear hR
      by_cases hbig : 512 < (restS s i).size
      · have hb1 : ¬ ((restS s i).size : Int) ≤ 512 := by omega
        have hb2 : (512 : Int) < ((restS s i).size : Int) := by omega
        rw [← piece_big] at hy
        gi_wp2
        refine HR.out.mono ?_
        rintro e W3 ⟨rfl, hJ3, hB3⟩
        have HJ3 := Aside0.mk hJ3
        have hc3 := hB3.cell
        have hf3 := hB3.frozen
        have HB3 := Aside0.mk hB3
        clear hJ3 hB3 hy
        gi_wp2
        go_roundw
        case rel =>
          refine ⟨i + 1, by omega, ⟨hJ _ _ _ HJ3.out ⟨_, rfl⟩⟩, ⟨?_⟩⟩
          rw [← rest_next s i hbig]
          exact HB3.out.set _
        case measure =>
          have h1 : boxLen B wr = (restS s i).size := by unfold boxLen; rw [HB.out.cell]
          have h2 : boxLen B (W3.setCell ⟨B, 0, none⟩ (.string ((restS s i).extract 512 (restS s i).size))) = (restS s (i + 1)).size := by
            unfold boxLen; rw [(HB3.out.set _).cell, rest_next s i hbig]
          rw [h1, h2, rest_size, rest_size]
          rw [rest_size] at hbig
          omega
      · have hb1 : ((restS s i).size : Int) ≤ 512 := by omega
        have hb2 : ¬ (512 : Int) < ((restS s i).size : Int) := by omega
        rw [piece_small s i (by omega)] at hy
        have HE := Aside0.mk (rest_end s i (by omega))
        gi_wp2
        refine HR.out.mono ?_
        rintro e W3 ⟨rfl, hJ3, hB3⟩
        have HJ3 := Aside0.mk hJ3
        have hc3 := hB3.cell
        have hf3 := hB3.frozen
        have HB3 := Aside0.mk hB3
        clear hJ3 hB3 hy
        gi_wp2
        go_roundw
        case rel =>
          refine ⟨i + 1, by omega, ⟨hJ _ _ _ HJ3.out ⟨_, rfl⟩⟩, ⟨?_⟩⟩
          rw [HE.out]
          exact HB3.out.set _
        case measure =>
          have h1 : boxLen B wr = (restS s i).size := by unfold boxLen; rw [HB.out.cell]
          have h3 := (many_lt s i).1 hlt
          have h2 : ∀ u : ByteArray, boxLen B (W3.setCell ⟨B, 0, none⟩ (.string u)) = u.size := fun u => by unfold boxLen; rw [(HB3.out.set _).cell]
          rw [h1, h2]
          exact h3
    · have he := (empty_of (restS s i) (fun h => hlt ((many_lt s i).2 h)))
      obtain ⟨f1, f2⟩ := he
      have hc := HB.out.cell
      have hf := HB.out.frozen
      have HN := Aside0.mk (show i = manyS s by omega)
      gi_wp2
      go_end0
      exact ⟨⟨_, rfl⟩, by rw [← HN.out]; exact HJ.out⟩
theorem pieces_calls (s : ByteArray) (w : World) : Calls Try.prog 28 #[.string s] w fun e w' => e = .returned (.func (.func 36) #[] #[.pointer (some ⟨w.heap.size, 0, none⟩)]) ∧ w.alloc (.cells #[.string s] 9) = w' := by
  go_enter Try.func28, Try.ntmps28
  go_wp2
  go_ret
  exact ⟨rfl, rfl⟩
/-- A block of a text as bytes in cells. -/
def blk (s : ByteArray) (i : Nat) : List Int := (bytesOf (pieceS s i)) ++ List.replicate (512 - (pieceS s i).size) 0
def cutOf (s : ByteArray) (n : Nat) : List (List Int) := (List.range n).map (blk s)
theorem cutOf_succ (s : ByteArray) (n : Nat) : cutOf s (n + 1) = cutOf s n ++ [blk s n] := by simp [cutOf, List.range_succ]
def block_Cut.f (a0 : ByteArray) : Option (List (List Int)) := if a0.size ≤ 1000000 then some (cutOf a0 (manyS a0)) else none
theorem copy_cells (x : ByteArray) (m : Nat) (hx : x.size ≤ m) : (List.replicate m (Value.int .u8 0)).take 0 ++ Lib.byteCells x.data.toList ++ (List.replicate m (Value.int .u8 0)).drop (0 + x.size) = nums .u8 (bytesOf x ++ List.replicate (m - x.size) 0) := by
  simp [nums, bytesOf, Lib.byteCells]
theorem copy_made (W : World) (ty : TypeId) (x : ByteArray) (m : Nat) (hx : x.size ≤ m) :
    (Builtin.copy_ #[31, 9] ty #[.slice (some ⟨W.heap.size, 0, none⟩) m m, .string x]).run Try.prog (W.alloc (.cells (madeCells #[.int .u8 0] m) 5)) =
      .ok (goInt x.size) (W.alloc (.cells (nums .u8 (bytesOf x ++ List.replicate (m - x.size) 0)).toArray 5)) := by
  rw [Lib.run_copy_row_string (P := Try.prog) (W.alloc (.cells (madeCells #[.int .u8 0] m) 5)) 31 9 ty 5 W.heap.size 0 m m x (madeCells #[.int .u8 0] m) 5 Try.underlying31 (by kernel_rfl) (heap_alloc_new W _) hx (by rw [size_madeCells]; simp; omega)]
  rw [setRow_alloc, made_list, copy_cells x m hx]
theorem piece_size (s : ByteArray) (i : Nat) : (pieceS s i).size ≤ 512 := by
  show (pieceS s i).data.size ≤ 512
  simp [pieceS]
  omega
theorem blk_length (s : ByteArray) (i : Nat) : (blk s i).length = 512 := by
  have := piece_size s i
  simp [blk, bytesOf_length]
  omega
/-- Where the loop stands. -/
def CutI (w : World) (s : ByteArray) (i : Nat) (W : World) : Prop :=
  (∃ v, Boxed W w.heap.size 22 v ∧ Kd.S (Kd.slice 5 (Kd.int .u8)) 31 W w.heap.size (fun _ => True) v (cutOf s i)) ∧ (∃ u, Boxed W (w.heap.size + 1) 9 u) ∧ Below w.heap.size w W
theorem CutI.step {w : World} {s : ByteArray} {i : Nat} {A A' : World} (h : CutI w s i A) (hs : ∃ u, A' = A.setCell ⟨w.heap.size + 1, 0, none⟩ u) : CutI w s i A' := by
  obtain ⟨⟨v, hv, hS⟩, ⟨u0, hu⟩, hB⟩ := h
  obtain ⟨u, rfl⟩ := hs
  exact ⟨⟨v, hv.other (by omega) u, Kd.S_set hS hu (by decide) 0 u⟩, ⟨u, hu.set u⟩, hB.setCell (p := ⟨w.heap.size + 1, 0, none⟩) (by simp) u⟩
theorem CutI.own (w : World) (s : ByteArray) (n : Nat) (hn : w.heap.size ≤ n) : OwnFrom n (CutI w s) := by
  intro i A B row h hg hr
  have hr' : ∀ r, row = some r → ∃ o : Obj, A.heap[r]? = some o ∧ o.isCells = false := fun r e => (hr r e).2
  obtain ⟨⟨v, hv, hS⟩, ⟨u0, hu⟩, hB⟩ := h
  exact ⟨⟨v, boxed_noncells hv hg hr', S_noncells hS hg hr'⟩, ⟨u0, boxed_noncells hu hg hr'⟩, hB.grown hg hB.size (fun k e => Nat.le_trans hn (hr k e).1)⟩
set_option maxHeartbeats 8000000 in
set_option maxRecDepth 100000 in
theorem block_Cut.calls (a0 : ByteArray) (r : List (List Int)) (w : World) (h : block_Cut.f a0 = some r) :
    Calls Try.prog 15 #[.string a0] w fun e w' => ∃ v0_ : Value, e = .returned (v0_) ∧ Kd.S (Kd.slice 5 (Kd.int .u8)) 31 w' w.heap.size (fun _ => True) v0_ r ∧ Below w.heap.size w w' := by
  unfold block_Cut.f at h
  by_cases hsz : a0.size ≤ 1000000
  · rw [if_pos hsz] at h
    obtain rfl := Option.some.inj h
    clear h
    refine (callsIn_wide (n := 3)).1 ?_
    have F28 : Fence.wide.fn 28 := trivial
    refine callsIn_of_wp_marks Try.func15 rfl trivial ?_ rfl
    simp only [Try.ntmps15, List.size_toArray, List.length_cons, List.length_nil, Nat.reduceAdd, Nat.reduceSub, Array.replicate_succ, Array.replicate_zero, List.push_toArray, List.append_toArray, List.nil_append, List.cons_append]
    have HSZ := Aside0.mk hsz
    clear hsz
    gi_wp2_with (gi_at_call 28; refine (callsIn_wide.2 (pieces_calls _ _)).mono ?_; rintro e w' ⟨rfl, rfl⟩)
    have bO := Boxed.new w 22 (.slice none 0 0)
    have bS := Boxed.new (w.alloc (.cells #[.slice none 0 0] 22)) 9 (.string a0)
    rw [World.size_alloc] at bS
    have hB0 : Below w.heap.size w ((w.alloc (.cells #[.slice none 0 0] 22)).alloc (.cells #[.string a0] 9)) := ((Below.refl _ w).alloc (Nat.le_refl _) _).alloc (by simp) _
    have e0 : restS a0 0 = a0 := bytes_ext (by simp [restS])
    refine range_all rfl (by omega) (gf := 36) (lb := #[.pointer (some ⟨w.heap.size + 1, 0, none⟩)]) rfl trivial (enters_of Try.func36 (by kernel_rfl) rfl)
      (manyS a0) (fun i => #[.string (pieceS a0 i)]) (fun _ => rfl) (fun A A' => ∃ u, A' = A.setCell ⟨w.heap.size + 1, 0, none⟩ u) (fun i A => Boxed A (w.heap.size + 1) 9 (.string (restS a0 i)))
      (fun l J W hJ hY h0 hr0 => pieces_in Fence.wide _ trivial rfl (by omega) l (w.heap.size + 1) a0 (by have := HSZ.out; omega) J hJ hY W h0 hr0)
      (fun A A' hs k o hk ho => by obtain ⟨u, rfl⟩ := hs; exact (KeepsOthers.setCell A _ u).same k o hk ho)
      (CutI w a0) (CutI.own w a0 _ (by simp; omega)) (fun i A B row h hg hr => boxed_noncells h hg (fun r e => (hr r e).2)) (fun i A A' h hs => h.step hs)
      ⟨⟨_, bO.alloc _, Kd.S_nil _ _ _ _ _⟩, ⟨_, bS⟩, hB0⟩ (by rw [e0]; exact bS)
      (fun i => { tmps := #[.string a0, undef, .slice none 0 0, .pointer (some ⟨w.heap.size, 0, none⟩), .string (pieceS a0 i), undef, .string a0, .func (.func 36) #[] #[.pointer (some ⟨w.heap.size + 1, 0, none⟩)], .string (pieceS a0 i), undef, undef, undef, undef, undef, undef, undef, undef, undef], defers := [] }) ?assign ?body ?done
    case assign =>
      intro l i W K hK
      gi_wp2
      exact hK
    case body =>
      rintro l i W hlt ⟨⟨v, hv, hS⟩, ⟨u, hu⟩, hB⟩ hrd
      have kmk : ∀ W : World, (Instr.makeSlice 31 (.int .i64 512) (.int .i64 512)).run Try.prog W = .ok (.slice (some ⟨W.heap.size, 0, none⟩) 512 512) (W.alloc (.cells (madeCells #[.int .u8 0] 512) 5)) :=
        print_make 31 5 .u8 1 Try.underlying31 info5 (by omega) 512 (by omega)
      have kcp := copy_made W 3 (pieceS a0 i) 512 (piece_size _ _)
      have HL : (blk a0 i).length = 512 := blk_length a0 i
      have HP : (Kd.slice 5 (Kd.int .u8)).M (W.alloc (.cells (nums .u8 (blk a0 i)).toArray 5)) w.heap.size (fun k => k = W.heap.size) (blk a0 i) [.slice (some ⟨W.heap.size, 0, none⟩) 512 512] := by
        have h1 := own_lit W w.heap.size 5 .u8 (blk a0 i) hB.size (by rw [HL]; omega)
        refine Kd.M_row (Kd.R_of_own (enc := Value.int .u8) (h1 := fun _ => rfl) ?_ ?_)
        · rw [HL] at h1 ⊢
          exact h1
        · intro k hk
          have : W.heap.size = k := by simpa [Value.ownBlock] using hk
          exact this.symm
      have HO : Kd.S (Kd.slice 5 (Kd.int .u8)) 31 (W.alloc (.cells (nums .u8 (blk a0 i)).toArray 5)) w.heap.size (fun k => True ∧ ¬ k = W.heap.size) v (cutOf a0 i) :=
        Kd.S_mono (Kd.S_alloc (Kd.S_bound hS) _) (fun k hk => ⟨trivial, fun e => by have := hk.2.2.1; omega⟩)
      have hvA := hv.alloc (.cells (nums .u8 (blk a0 i)).toArray 5)
      have hB2 : Below w.heap.size w (W.alloc (.cells (nums .u8 (blk a0 i)).toArray 5)) := below_alloc hB _
      have hc := hvA.cell
      have hne : some W.heap.size ≠ v.ownBlock := fun e => by have := Kd.S_lt hS _ e.symm; omega
      have KEEP : KeepsOthers W (W.alloc (.cells (nums .u8 (blk a0 i)).toArray 5)) := KeepsOthers.alloc _ _
      have huA := hrd.alloc (.cells (nums .u8 (blk a0 i)).toArray 5)
      have HSZ2 : W.heap.size ≤ (W.alloc (.cells (nums .u8 (blk a0 i)).toArray 5)).heap.size := by simp
      have hle := hB2.size
      rw [show bytesOf (pieceS a0 i) ++ List.replicate (512 - (pieceS a0 i).size) 0 = blk a0 i from rfl] at kcp
      generalize hW2 : W.alloc (.cells (nums .u8 (blk a0 i)).toArray 5) = W2 at kcp HP HO hvA hB2 hc KEEP huA HSZ2 hle
      have HHP := Aside0.mk HP
      have HHO := Aside0.mk HO
      have HHB := Aside0.mk hB2
      have HHV := Aside0.mk hvA
      have HKE := Aside0.mk KEEP
      have HHU := Aside0.mk huA
      have HNE := Aside0.mk hne
      have HLE := Aside0.mk hle
      have HSZ3 := Aside0.mk HSZ2
      have HMANY := Aside0.mk (show (cutOf a0 i).length + 1 ≤ 2000 by
        have := HSZ.out
        unfold manyS at hlt
        simp [cutOf]; omega)
      clear HP HO hvA hB2 KEEP huA hne hW2 hS hB hu hrd hv HL hle HSZ2
      gi_wp2_with (first | ((with_reducible refine copyIn rfl (.tmp 10) (.tmp 11) 31 9 rfl _ _ _ rfl rfl kcp ?_)) | (gi_at_builtin; refine appendIn (Kd.slice 5 (Kd.int .u8)) (w0 := w) w.heap.size rfl (.tmp 13) (.tmp 15) 22 31 (.slice none 0 0) 24 rfl Try.underlying22 info31 rfl (by decide) (by omega) v (cutOf a0 i) (blk a0 i) _ (fun _ => True) (fun k => k = W.heap.size) rfl rfl HHP.out (fun k hk => ⟨trivial, by rw [hk]; exact HNE.out⟩) (fun _ _ => trivial) HHO.out HHB.out HLE.out (by have := HMANY.out; omega) ?_; intro v1 w1 hS1 hB1 hg1; obtain ⟨A1, c1, he1⟩ := Kd.S_slice hS1; subst he1; have hv1 := HHV.out.kept hg1 (Kd.S_ne HHO.out HHV.out (by decide)); have hc1 := hv1.cell; have hf1 := hv1.frozen; have HS1 := Aside0.mk hS1; have HB1 := Aside0.mk hB1; have HG1 := Aside0.mk hg1; clear hS1 hB1 hg1))
      have hu1 := HHU.out.kept HG1.out (Kd.S_ne HHO.out HHU.out (by decide))
      refine ⟨?_, ⟨⟨_, hv1.set _, ?_⟩, ⟨_, hu1.other (by omega) _⟩, ?_⟩, hu1.other (by omega) _⟩
      · refine ((HKE.out.trans (KeepsOthers.of_grownBy HG1.out fun j o ej hj => ?_)).trans (KeepsOthers.setCell _ _ _)).from _
        obtain ⟨cells, hcl⟩ := Kd.S_typed HHO.out j ej
        rw [hcl] at hj
        cases hj
        rfl
      · rw [cutOf_succ]
        have h2 := Kd.S_set HS1.out hv1 (by decide) 0 (.slice A1 ((cutOf a0 i).length + 1) c1)
        rw [show (cutOf a0 i ++ [blk a0 i]).length = (cutOf a0 i).length + 1 by simp] at h2
        exact h2
      · exact HB1.out.setCell (p := ⟨w.heap.size, 0, none⟩) (Nat.le_refl _) _
    case done =>
      rintro D W hD ⟨⟨v, hv, hS⟩, ⟨u, hu⟩, hB⟩ hK
      have hc := hv.cell
      have hf := hv.frozen
      have HS := Aside0.mk hS
      have HB := Aside0.mk hB
      have HD := Aside0.mk (show w.heap.size ≤ D by simp at hD; omega)
      clear hS hB hD
      gi_wp2
      refine ⟨by simp, .inl ⟨_, _, rfl, run_takeDeferred hK, ?_⟩⟩
      exact ⟨_, results_tmp rfl _ _ _, v, rfl, S_noncells HS.out (grownBy_putObj' W D _) (fun r e => by cases e; exact ⟨_, hK, rfl⟩), HB.out.grown (grownBy_putObj' W D _) HB.out.size (fun k e => by cases e; exact HD.out)⟩
  · rw [if_neg hsz] at h; cases h
end

end Go.Proofs.Ytdbnglmcimckmaa.M
