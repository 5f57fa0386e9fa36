/- Part of a claim: what some functions of the program compute, each with its contract; no condition of its own. Written by a program of this workplace (gen.py, over the print of the kit) and by hand. -/
import Derived.Test.YtpbfeegfkiegeaaM0
import Derived.Test.YtpbfeegfkiegeaaM1
import Derived.Test.YtpbfeegfkiegeaaM2
import Derived.Test.YtpbfeegfkiegeaaM4
import Derived.Test.YtpbfeegfkiegeaaM5
import Derived.Test.YtpbfeegfkiegeaaM6
namespace Go.Proofs.Ytpbfeegfkiegeaa.M
open Go.RowKit Go.Proofs.YtpbfeegfkiegeaaW.PrintWords Go.Proofs.YtpbfeegfkiegeaaW.PrintLast Go.Proofs.YtpbfeegfkiegeaaW.PrintMore
attribute [local go_sem] max2_int min2_int max_two min_two max_three min_three max_four min_four   -- for this text's walks alone
set_option linter.unusedVariables false
set_option linter.unusedSimpArgs false

section
attribute [-go_sem] Builtin.append_
def fillN (cap : Int) (mark : Bool) : Nat → List (List Int) → Nat × Int
  | _, [] => (0, 0)
  | len, r :: rs => if recMay r = true then (if mark = true ∨ (len : Int) = cap then (0, 8) else ((fillN cap mark (len + 1) rs).1 + 1, (fillN cap mark (len + 1) rs).2)) else (0, 1)
def AddEnd (g : Nat) (cap : Int) (mark : Bool) (base : Nat) (acc : List (List Int)) (w w' : World) : Prop :=
  ∃ v : Value, w'.heap[g]? = some (.cells #[.int .i64 cap, v, .bool mark] 82 (0, 0)) ∧ Kd.S (Kd.slice 5 (Kd.int .u8)) 25 w' base (fun _ => True) v acc ∧ Below base w w'
def AddJump (g : Nat) (A1 : Option Addr) (c1 : Nat) (rs : List (List Int)) (n e : Int) (a' : Act) : Prop :=
  ∃ u2 u3 u4 u5 u8 u9 u10 u11 u12 u13 u14 u15 u16 u17 u18 u19 u20 u21 u22 u23 u24 u25 u26 u27 u28 u29 u30 u31 u32 u33 u34 u35 u36 u37 u38 u39 u40 u41 u42 u43 u44 u45 u46 u47 u48 u49 u50 u51 u52 u53 u54 u55 : Value, a' = { tmps := #[.pointer (some ⟨g, 0, none⟩), .slice A1 rs.length c1, u2, u3, u4, u5, .int .i64 n, .int .i64 e, u8, u9, u10, u11, u12, u13, u14, u15, u16, u17, u18, u19, u20, u21, u22, u23, u24, u25, u26, u27, u28, u29, u30, u31, u32, u33, u34, u35, u36, u37, u38, u39, u40, u41, u42, u43, u44, u45, u46, u47, u48, u49, u50, u51, u52, u53, u54, u55], defers := [] }
theorem clone_M12 {W W2 : World} {base : Nat} {v : Value} {xs : List Int} (h : (Kd.int .u8).R 5 W2 W.heap.size (fun _ => True) v xs) (hb : base ≤ W.heap.size) :
    (Kd.slice 5 (Kd.int .u8)).M W2 base (fun k => v.ownBlock = some k) xs [v] :=
  Kd.M_row (Kd.R_lower (Kd.R_of_own (enc := Value.int .u8) (h1 := fun _ => rfl) (Kd.own_of_R h) (fun _ hk => hk)) hb)
theorem S_same12 {α : Type} {d : Kd α} {e : Nat} {A B : World} {base : Nat} {ok : Nat → Prop} {v : Value} {xs : List α} (h : Kd.S d e A base ok v xs) (hb : Below A.heap.size A B) : Kd.S d e B base (fun k => ok k ∧ k < A.heap.size) v xs :=
  Kd.S_mono (Kd.S_move (Kd.S_bound h) (fun k hk => hb.block k hk.2.2.1)) (fun _ hk => ⟨hk.1, hk.2.2.1⟩)
theorem add_out {g : Nat} {cap : Int} {mark : Bool} {base : Nat} {l : List (List Int)} {A1 : Option Addr} {c1 : Nat} {rs : List (List Int)} {w w' : World} {a' : Act} {n : Nat} {e : Int} (heq : fillN cap mark l.length rs = (n, e)) (hj : AddJump g A1 c1 rs (n : Int) e a') (he : AddEnd g cap mark base (l ++ rs.take n) w w') :
    AddJump g A1 c1 rs ((fillN cap mark l.length rs).1 : Int) (fillN cap mark l.length rs).2 a' ∧ AddEnd g cap mark base (l ++ rs.take (fillN cap mark l.length rs).1) w w' := by
  rw [heq]
  exact ⟨hj, he⟩
set_option maxHeartbeats 8000000 in
set_option maxRecDepth 100000 in
theorem reel_add.says (g : Nat) (cap : Int) (mark : Bool) (v : Value) (l : List (List Int)) (base : Nat) (A1 : Option Addr) (c1 : Nat) (rs : List (List Int)) (w : World) (hbk : w.heap[g]? = some (.cells #[.int .i64 cap, v, .bool mark] 82 (0, 0)))
    (hS : Kd.S (Kd.slice 5 (Kd.int .u8)) 25 w base (fun _ => True) v l) (hbg : base ≤ g) (hr : Kd.F (Kd.slice 5 (Kd.int .u8)) w (fun k => k < base) A1 rs.length rs) (hc : rs.length ≤ c1)
    (hl : l.length + rs.length ≤ 100000) (hrs : ∀ r ∈ rs, r.length ≤ 1000000) :
    Calls Try.prog 70 #[.pointer (some ⟨g, 0, none⟩), .slice A1 rs.length c1] w fun e w' => e = .returned (.tuple #[.int .i64 ((fillN cap mark l.length rs).1 : Int), .int .i64 (fillN cap mark l.length rs).2]) ∧ AddEnd g cap mark base (l ++ rs.take (fillN cap mark l.length rs).1) w w' := by
  obtain ⟨A2, c2, he⟩ := Kd.S_slice hS
  subst he
  have HBK := Aside0.mk hbk
  have HS := Aside0.mk hS
  have HR := Aside0.mk hr
  have HC := Aside0.mk hc
  have HL := Aside0.mk hl
  have HRS := Aside0.mk hrs
  have HBG := Aside0.mk hbg
  clear hbk hS hr hc hl hrs hbg
  go_enter Try.func70, Try.ntmps70
  go_wp2
  refine wp_scope_jumps 0 (fun a' w' => AddJump g A1 c1 rs ((fillN cap mark l.length rs).1 : Int) (fillN cap mark l.length rs).2 a' ∧ AddEnd g cap mark base (l ++ rs.take (fillN cap mark l.length rs).1) w w') (fun _ _ => 0) rfl ?_ ?_
  · go_wp2
    go_loopg [6, 7, 12] rs.length (fun kq v6 v7 v12 w' => ∃ (x : Int) (acc : List (List Int)) (A3 : Option Addr) (c3 : Nat), v6 = .int .i64 x ∧ v7 = .int .i64 0 ∧ v12 = .int .i64 x ∧ Aside0 (0 ≤ x ∧ x ≤ rs.length ∧ rs.length - x.toNat ≤ kq ∧ acc = l ++ rs.take x.toNat ∧ fillN cap mark l.length rs = (x.toNat + (fillN cap mark acc.length (rs.drop x.toNat)).1, (fillN cap mark acc.length (rs.drop x.toNat)).2)) ∧ Aside0 (w'.heap[g]? = some (.cells #[.int .i64 cap, .slice A3 acc.length c3, .bool mark] 82 (0, 0))) ∧ Aside0 (Kd.S (Kd.slice 5 (Kd.int .u8)) 25 w' base (fun _ => True) (.slice A3 acc.length c3) acc) ∧ Aside0 (Below base w w'))
    case atStart => exact ⟨0, l, A2, c2, rfl, rfl, rfl, ⟨by omega, by omega, by omega, by simp, by simp⟩, HBK, HS, ⟨Below.refl _ _⟩⟩
    case round =>
      obtain ⟨x, acc, A3, c3, rfl, rfl, rfl, HI, BK, HSA, HB⟩ := hrel
      have hal : acc.length = l.length + x.toNat := by have h1 := HI.out.2.2.2.1; have h2 := HI.out.1; have h3 := HI.out.2.1; rw [h1, List.length_append, List.length_take]; omega
      by_cases c2 : x < (rs.length : Int)
      · have c2b0 : decide (x < (rs.length : Int)) = true := decide_eq_true c2
        have p1 : 0 ≤ x := HI.out.1
        obtain ⟨ad, A4, c4, e1, hx1, hl1, hi1⟩ := at_row (Kd.F_now (Kd.F_step HR.out (fun k hk _ => HB.out.block k hk))) x p1 c2
        have hdrop : rs.drop x.toNat = rdRow rs x :: rs.drop (x.toNat + 1) := by
          rw [List.drop_eq_getElem_cons (by omega)]
          congr 1
          unfold rdRow
          simp [List.getD_eq_getElem?_getD, (by omega : x.toNat < rs.length)]
        have htake : rs.take (x.toNat + 1) = rs.take x.toNat ++ [rdRow rs x] := by
          rw [List.take_add_one, List.getElem?_eq_getElem (by omega)]
          unfold rdRow
          simp [List.getD_eq_getElem?_getD, (by omega : x.toNat < rs.length)]
        have hrm : (rdRow rs x).length ≤ 1000000 := by
          refine HRS.out _ ?_
          have h9 : rdRow rs x ∈ rs.drop x.toNat := by rw [hdrop]; exact List.mem_cons_self ..
          exact List.mem_of_mem_drop h9
        obtain ⟨r, hrr⟩ : ∃ r, rdRow rs x = r := ⟨_, rfl⟩
        rw [hrr] at hx1 hl1 hi1 hdrop htake hrm
        subst e1
        have p2 : x ≤ 9223372036854775806 := by have := HL.out; omega
        have HT := Aside0.mk c2
        have HD := Aside0.mk hdrop
        have HTK := Aside0.mk htake
        have HRM := Aside0.mk hrm
        have HI1 := Aside0.mk hi1
        have HL1 := Aside0.mk hl1
        have HAL := Aside0.mk hal
        have HX := Aside0.mk (recMay_f r hi1.2.1)
        clear hdrop htake hrm hi1 hl1 hal hrr
        replace c2 := eq_true c2
        replace p1 := eq_true p1
        cases hm : recMay r with
        | false =>
          have HM := Aside0.mk hm
          rw [hm] at HX
          clear hm
          go_wp2_with (go_at_call 39; refine (record_May.calls A4 c4 r false _ (Kd.C_below HI1.out (by repeat (first | exact Below.refl _ _ | apply pw_below_drewN))) HL1.out HX.out).mono ?_; rintro e w' ⟨rfl, ⟨m1, rfl⟩⟩)
          go_step3
          have heq : fillN cap mark l.length rs = (x.toNat, 1) := by
            rw [HI.out.2.2.2.2, HD.out]
            simp only [fillN]
            rw [if_neg (by rw [HM.out]; decide)]
            rfl
          refine ⟨rfl, add_out heq (by rw [show ((x.toNat : Nat) : Int) = x by have := HI.out.1; omega]; exact ⟨_, _, _, _, _, _, _, _, _, _, _, _, _, _, _, _, _, _, _, _, _, _, _, _, _, _, _, _, _, _, _, _, _, _, _, _, _, _, _, _, _, _, _, _, _, _, _, _, _, _, _, _, rfl⟩) ?_⟩
          rw [← HI.out.2.2.2.1]
          exact ⟨_, BK.out, Kd.S_drewN HSA.out _, pw_below_drewN HB.out _⟩
        | true =>
          have HM := Aside0.mk hm
          rw [hm] at HX
          clear hm
          have k0 := blk_cell BK.out 0
          have k1 := blk_cell BK.out 1
          have k2 := blk_cell BK.out 2
          by_cases hfull : mark = true ∨ ((acc.length : Nat) : Int) = cap
          · have heq : fillN cap mark l.length rs = (x.toNat, 8) := by
              rw [HI.out.2.2.2.2, HD.out]
              simp only [fillN]
              rw [if_pos HM.out, if_pos hfull]
              rfl
            have HEQ := Aside0.mk heq
            clear heq
            have hend : ∀ m m', AddEnd g cap mark base (l ++ rs.take x.toNat) w ((wr.drewN m).drewN m') := by
              intro m m'
              rw [← HI.out.2.2.2.1]
              exact ⟨_, BK.out, Kd.S_drewN (Kd.S_drewN HSA.out _) _, pw_below_drewN (pw_below_drewN HB.out _) _⟩
            have HEND := Aside0.mk hend
            clear hend
            cases hmk : mark with
            | true =>
              subst hmk
              clear hfull
              go_wp2_with (go_at_call 39; refine (record_May.calls A4 c4 r true _ (Kd.C_below HI1.out (by repeat (first | exact Below.refl _ _ | apply pw_below_drewN))) HL1.out HX.out).mono ?_; rintro e w' ⟨rfl, ⟨m1, rfl⟩⟩)
              go_quiet (fail)
              go_wp2
              go_step3
              refine ⟨rfl, add_out HEQ.out (by rw [show ((x.toNat : Nat) : Int) = x by have := HI.out.1; omega]; exact ⟨_, _, _, _, _, _, _, _, _, _, _, _, _, _, _, _, _, _, _, _, _, _, _, _, _, _, _, _, _, _, _, _, _, _, _, _, _, _, _, _, _, _, _, _, _, _, _, _, _, _, _, _, rfl⟩) (HEND.out _ _)⟩
            | false =>
              have hf := hfull.resolve_left (by rw [hmk]; decide)
              subst hmk
              have b1 : (((acc.length : Nat) : Int) == cap) = true := beq_iff_eq.2 hf
              clear hf hfull
              go_wp2_with (go_at_call 39; refine (record_May.calls A4 c4 r true _ (Kd.C_below HI1.out (by repeat (first | exact Below.refl _ _ | apply pw_below_drewN))) HL1.out HX.out).mono ?_; rintro e w' ⟨rfl, ⟨m1, rfl⟩⟩)
              go_quiet (fail)
              go_wp2
              go_step3
              refine ⟨rfl, add_out HEQ.out (by rw [show ((x.toNat : Nat) : Int) = x by have := HI.out.1; omega]; exact ⟨_, _, _, _, _, _, _, _, _, _, _, _, _, _, _, _, _, _, _, _, _, _, _, _, _, _, _, _, _, _, _, _, _, _, _, _, _, _, _, _, _, _, _, _, _, _, _, _, _, _, _, _, rfl⟩) (HEND.out _ _)⟩
          · have hmk : mark = false := by cases h : mark <;> simp_all
            have hf : ¬ ((acc.length : Nat) : Int) = cap := fun e => hfull (.inr e)
            have HFULL := Aside0.mk hfull
            subst hmk
            have b1 : (((acc.length : Nat) : Int) == cap) = false := beq_eq_false_iff_ne.2 hf
            clear hf hfull
            go_wp2_with (go_at_call 39; refine (record_May.calls A4 c4 r true _ (Kd.C_below HI1.out (by repeat (first | exact Below.refl _ _ | apply pw_below_drewN))) HL1.out HX.out).mono ?_; rintro e w' ⟨rfl, ⟨m1, rfl⟩⟩)
            go_quiet (fail)
            go_wp2
            have BKQ := Aside0.mk (show ((wr.drewN m1).drewN nq).heap[g]? = some (.cells #[.int .i64 cap, .slice A3 acc.length c3, .bool false] 82 (0, 0)) from BK.out)
            have HSQ := Aside0.mk (Kd.S_drewN (Kd.S_drewN HSA.out m1) nq)
            have HBQ := Aside0.mk (pw_below_drewN (pw_below_drewN HB.out m1) nq)
            have HIQ := Aside0.mk (Kd.C_drewN (Kd.C_drewN HI1.out m1) nq)
            have HGQ := Aside0.mk (show g < ((wr.drewN m1).drewN nq).heap.size from blk_lt BK.out)
            clear k0 k1 k2 BK HSA HB HI1
            generalize (wr.drewN m1).drewN nq = WQ at BKQ HSQ HBQ HIQ HGQ ⊢
            have kq := blk_cell BKQ.out 1
            go_region_with ((go_at_call 55; refine (clone_any A4 c4 r _ (Kd.C_drew HIQ.out) HRM.out).mono ?_; rintro e W2 ⟨v22, rfl, hR22, hb22⟩; obtain ⟨A5, c5, he5⟩ := Kd.R_slice hR22; subst he5; have hBW := below_step (Below.drew (Below.refl WQ.heap.size WQ)) hb22; have bk2 := blk_below BKQ.out hBW; have bk3 := blk_alloc bk2 (.cells #[.slice A5 r.length c5] 25); have kq2 := blk_cell bk2 1; have kq3 := blk_cell bk3 1; have hne2 : some g ≠ (Value.slice A3 acc.length c3).ownBlock := Kd.S_ne (S_same12 HSQ.out hBW) bk2 (by decide); obtain ⟨v1, w1, hrun, hS1, hB1, hg1⟩ := append_run (P := Try.prog) (Kd.slice 5 (Kd.int .u8)) (w0 := w) base 39 39 25 (.slice none 0 0) 24 Try.underlying39 info25 rfl (by decide) (by omega) (.slice A3 acc.length c3) acc r [.slice A5 r.length c5] (fun _ => True) (fun k => (Value.slice A5 r.length c5).ownBlock = some k) (clone_M12 hR22 (by show base ≤ WQ.heap.size; have := HGQ.out; have := HBG.out; omega)) (fun k hk => ⟨trivial, fun e => by have h1 := Kd.S_lt HSQ.out _ e.symm; have h2 : WQ.heap.size ≤ k := Kd.R_base hR22 _ hk; omega⟩) (fun _ _ => trivial) (Kd.S_mono (S_same12 HSQ.out hBW) (fun k hk => ⟨trivial, fun e => by have h1 := hk.2; have h2 : WQ.heap.size ≤ k := Kd.R_base hR22 _ e; omega⟩)) (HBQ.out.trans (hBW.mono (by have := HGQ.out; have := HBG.out; omega))) (by have := HGQ.out; have := HBG.out; have := hBW.size; omega) (by have := HAL.out; have := HL.out; have := HT.out; have := HI.out.1; omega); obtain ⟨A6, c6, he6⟩ := Kd.S_slice hS1; subst he6; change (Builtin.append_ #[39, 39] 39 #[.slice A3 acc.length c3, .slice (some ⟨W2.heap.size, 0, none⟩) 1 1]).run Try.prog (W2.alloc (.cells #[.slice A5 r.length c5] 25)) = .ok (.slice A6 (acc ++ [r]).length c6) w1 at hrun; have bk4 := blk_grown bk2 hg1 hne2; have kq4 := blk_cell bk4 1; have fq4 := blk_frozen bk4 1; have BK4 := Aside0.mk bk4; have HS1 := Aside0.mk hS1; have HB1 := Aside0.mk hB1; clear hR22 hb22 hBW bk2 bk3 hne2 hS1 hB1 hg1 bk4))
            all_goals (
              go_wp2
              go_roundg (rs.length - (x.toNat + 1))
              case measure => have := HT.out; have := HI.out.1; have := HI.out.2.2.1; omega
              case rel =>
                have hlen1 : (acc ++ [r]).length = acc.length + 1 := by simp
                have hx1 : (x + 1).toNat = x.toNat + 1 := by have := HI.out.1; omega
                refine ⟨x + 1, acc ++ [r], A6, c6, wrap_step (by have := HI.out.1; omega) p2, rfl, wrap_step (by have := HI.out.1; omega) p2, ⟨by have := HI.out.1; omega, by have := HT.out; omega, by have := HI.out.1; omega, ?_, ?_⟩, ⟨?_⟩, ⟨?_⟩, ⟨HB1.out.setCell (by exact HBG.out) _⟩⟩
                · rw [hx1, HTK.out, ← List.append_assoc, ← HI.out.2.2.2.1]
                · rw [HI.out.2.2.2.2, HD.out, hx1, hlen1]
                  simp only [fillN]
                  rw [if_pos HM.out, if_neg HFULL.out]
                  refine Prod.ext ?_ rfl
                  show x.toNat + (_ + 1) = x.toNat + 1 + _
                  omega
                · rw [hlen1]
                  exact blk_put BK4.out 1 _ rfl
                · have h2 := Kd.S_set HS1.out BK4.out (by decide) 1 (.slice A6 (acc.length + 1) c6)
                  exact h2)
      · have c2b0 : decide (x < (rs.length : Int)) = false := decide_eq_false c2
        have hx : x.toNat = rs.length := by have := HI.out.1; have := HI.out.2.1; omega
        have heq : fillN cap mark l.length rs = (x.toNat, 0) := by
          rw [HI.out.2.2.2.2, hx, List.drop_length]
          rfl
        have HEQ := Aside0.mk heq
        have hxc := HI.out.2.2.2.1
        have HXN := Aside0.mk (show ((x.toNat : Nat) : Int) = x by have := HI.out.1; omega)
        clear c2 hal hx heq
        go_wp2
        go_step3
        go_wp2
        try simp only [Exit.jump]
        refine bodyPost_ret (results_tmp2 rfl _ _ _) rfl ?_
        rw [HEQ.out]
        refine ⟨by show Ending.returned (.tuple #[.int .i64 x, .int .i64 0]) = .returned (.tuple #[.int .i64 ((x.toNat : Nat) : Int), .int .i64 0]); rw [HXN.out], ?_⟩
        show AddEnd g cap mark base (l ++ rs.take x.toNat) w _
        rw [← hxc]
        exact ⟨_, BK.out, HSA.out, HB.out⟩
  · rintro a' w' ⟨⟨u2, u3, u4, u5, u8, u9, u10, u11, u12, u13, u14, u15, u16, u17, u18, u19, u20, u21, u22, u23, u24, u25, u26, u27, u28, u29, u30, u31, u32, u33, u34, u35, u36, u37, u38, u39, u40, u41, u42, u43, u44, u45, u46, u47, u48, u49, u50, u51, u52, u53, u54, u55, rfl⟩, hend⟩
    have HEND := Aside0.mk hend
    clear hend
    go_wp2
    try simp only [Exit.jump]
    refine bodyPost_ret (results_tmp2 rfl _ _ _) rfl ?_
    exact ⟨rfl, HEND.out⟩
end
def sized (l : List (List Int)) : Prop := l.length ≤ 1000 ∧ (l.all fun b => decide (b.length ≤ 1000000)) = true
instance (l : List (List Int)) : Decidable (sized l) := by unfold sized; exact inferInstance
theorem tape_own.tells (a : Int) (l : List (List Int)) (b : Bool) (h : sized l) : tape_own.f a l b = some (a, l, b) := by
  unfold tape_own.f
  exact if_pos h
def fillT (a : Int) (l : List (List Int)) (b : Bool) (rs : List (List Int)) : Int × List (List Int) × Bool × Int × Int :=
  if mayT a l = true then (a, l ++ rs.take (fillN a b l.length rs).1, b, ((fillN a b l.length rs).1 : Int), (fillN a b l.length rs).2) else (a, l, b, 0, 1)
def tape_Fill.f (a0_0 : Int) (l0_1 : List (List Int)) (a0_2 : Bool) (l1 : List (List Int)) : Option (Int × List (List Int) × Bool × Int × Int) :=
  if sized l0_1 ∧ sized l1 then some (fillT a0_0 l0_1 a0_2 l1) else none
theorem S_past {α : Type} {d : Kd α} {e : Nat} {A B : World} {base base' : Nat} {v : Value} {xs : List α} (h : Kd.S d e A base (fun _ => True) v xs) (hb : base' ≤ base) (hm : ∀ k, base ≤ k → k < A.heap.size → B.heap[k]? = A.heap[k]?) : Kd.S d e B base' (fun _ => True) v xs :=
  Kd.S_mono (Kd.S_lower (Kd.S_step (Kd.S_bound h) (fun k hk hlt => hm k hk.2.1 hlt)) hb) (fun _ _ => trivial)
theorem three_below {w W : World} {g : Nat} {u0 u1 u2 : Value} (h : Below w.heap.size w W) (hg : w.heap.size ≤ g) : Below w.heap.size w (((W.setCell ⟨g, 0, none⟩ u0).setCell ⟨g, 1, none⟩ u1).setCell ⟨g, 2, none⟩ u2) := below_set (below_set (below_set h hg) hg) hg
theorem three_heap {W : World} {g k : Nat} {u0 u1 u2 : Value} (h : k ≠ g) : (((W.setCell ⟨g, 0, none⟩ u0).setCell ⟨g, 1, none⟩ u1).setCell ⟨g, 2, none⟩ u2).heap[k]? = W.heap[k]? := by
  rw [Below.heap_setCell _ ⟨g, 2, none⟩ _ k h, Below.heap_setCell _ ⟨g, 1, none⟩ _ k h, Below.heap_setCell _ ⟨g, 0, none⟩ _ k h]
theorem three_put {W : World} {g : Nat} {t : TypeId} {x0 x1 x2 u0 u1 u2 : Value} (h : W.heap[g]? = some (.cells #[x0, x1, x2] t (0, 0))) : (((W.setCell ⟨g, 0, none⟩ u0).setCell ⟨g, 1, none⟩ u1).setCell ⟨g, 2, none⟩ u2).heap[g]? = some (.cells #[u0, u1, u2] t (0, 0)) :=
  blk_put (blk_put (blk_put h 0 u0 rfl) 1 u1 rfl) 2 u2 rfl
set_option maxHeartbeats 8000000 in
set_option maxRecDepth 100000 in
theorem tape_Fill.says (a0_0 : Int) (A0_1 : Option Addr) (c0_1 : Nat) (l0_1 : List (List Int)) (a0_2 : Bool) (A1 : Option Addr) (c1 : Nat) (l1 : List (List Int)) (r1 : Int) (r2 : List (List Int)) (r3 : Bool) (r4 : Int) (r5 : Int) (w : World) (hr0_1 : Kd.C (Kd.slice 5 (Kd.int .u8)) w A0_1 l0_1.length l0_1) (hc0_1 : l0_1.length ≤ c0_1)
    (hr1 : Kd.C (Kd.slice 5 (Kd.int .u8)) w A1 l1.length l1) (hc1 : l1.length ≤ c1) (h : tape_Fill.f a0_0 l0_1 a0_2 l1 = some (r1, r2, r3, r4, r5)) :
    Calls Try.prog 61 #[.agg #[.int .i64 a0_0, .slice A0_1 l0_1.length c0_1, .bool a0_2], .slice A1 l1.length c1] w fun e w' => ∃ v1_ : Value, e = .returned (.tuple #[.agg #[.int .i64 r1, v1_, .bool r3], .int .i64 r4, .int .i64 r5]) ∧ Kd.S (Kd.slice 5 (Kd.int .u8)) 25 w' w.heap.size (fun _ => True) v1_ r2 ∧ Below w.heap.size w w' := by
  unfold tape_Fill.f at h
  by_cases hs : sized l0_1 ∧ sized l1
  case neg => rw [if_neg hs] at h; cases h
  rw [if_pos hs] at h
  have hB0 := below_alloc (below_alloc (Below.refl w.heap.size w) (.cells #[.int .i64 a0_0, .slice A0_1 l0_1.length c0_1, .bool a0_2] 41)) (.cells #[.int .i64 0, .slice none 0 0, .bool false] 41)
  have bk1 := blk_alloc (blk_new w (.cells #[.int .i64 a0_0, .slice A0_1 l0_1.length c0_1, .bool a0_2] 41)) (.cells #[.int .i64 0, .slice none 0 0, .bool false] 41)
  have bk2 := blk_new (w.alloc (.cells #[.int .i64 a0_0, .slice A0_1 l0_1.length c0_1, .bool a0_2] 41)) (.cells #[.int .i64 0, .slice none 0 0, .bool false] 41)
  rw [show (w.alloc (.cells #[.int .i64 a0_0, .slice A0_1 l0_1.length c0_1, .bool a0_2] 41)).heap.size = w.heap.size + 1 by simp] at bk2
  have hC0 := Kd.C_alloc (Kd.C_alloc hr0_1 (.cells #[.int .i64 a0_0, .slice A0_1 l0_1.length c0_1, .bool a0_2] 41)) (.cells #[.int .i64 0, .slice none 0 0, .bool false] 41)
  have hF1 := Kd.C_F (Kd.heap_slice _ (Kd.heap_int _)) hr1
  have hws : ((w.alloc (.cells #[.int .i64 a0_0, .slice A0_1 l0_1.length c0_1, .bool a0_2] 41)).alloc (.cells #[.int .i64 0, .slice none 0 0, .bool false] 41)).heap.size = w.heap.size + 2 := by simp
  have HWS := Aside0.mk hws
  have HB0 := Aside0.mk hB0
  have HC0 := Aside0.mk hC0
  have HF1 := Aside0.mk hF1
  have HC1 := Aside0.mk hc1
  have HC01 := Aside0.mk hc0_1
  have HS := Aside0.mk hs
  have HOWN := Aside0.mk (tape_own.tells a0_0 l0_1 a0_2 hs.1)
  have BK1 := Aside0.mk bk1
  have BK2 := Aside0.mk bk2
  have k10 := blk_cell bk1 0
  have k11 := blk_cell bk1 1
  have k12 := blk_cell bk1 2
  have hmay : tape_May.f a0_0 l0_1 a0_2 = some (mayT a0_0 l0_1) := rfl
  clear hB0 hC0 hF1 hc1 hc0_1 hs bk1 bk2 hr0_1 hr1 hws
  unfold fillT at h
  cases hm : mayT a0_0 l0_1 with
  | false =>
    rw [hm] at hmay
    have HMAY := Aside0.mk hmay
    rw [if_neg (by rw [hm]; decide)] at h
    simp only [Option.some.injEq, Prod.mk.injEq] at h
    obtain ⟨rfl, rfl, rfl, rfl, rfl⟩ := h
    clear hmay hm
    go_enter Try.func61, Try.ntmps61
    go_wp2_with (first | (go_at_call 52; refine (tape_May.calls a0_0 A0_1 c0_1 l0_1 a0_2 false _ HC0.out HC01.out HMAY.out).mono ?_; rintro e w3 ⟨rfl, hb⟩; have HB3 := Aside0.mk (below_step HB0.out hb); have HC3 := Aside0.mk (Kd.C_below HC0.out hb); have BK13 := Aside0.mk (blk_below BK1.out hb); have BK23 := Aside0.mk (blk_below BK2.out hb); clear hb k10 k11 k12; have k10 := blk_cell BK13.out 0; have k11 := blk_cell BK13.out 1; have k12 := blk_cell BK13.out 2) | (go_at_call 60; refine (tape_own.calls a0_0 A0_1 c0_1 l0_1 a0_2 _ _ _ _ HC3.out HC01.out HOWN.out).mono ?_; rintro e w4 ⟨v, rfl, hS, hb⟩; obtain ⟨A4, c4, he⟩ := Kd.S_slice hS; subst he; have HS4 := Aside0.mk hS; have HB34 := Aside0.mk hb; have HB4 := Aside0.mk (below_step HB3.out hb); have BK24 := Aside0.mk (blk_below BK23.out hb); clear hS hb k10 k11 k12; have k20 := blk_cell BK24.out 0; have k21 := blk_cell BK24.out 1; have k22 := blk_cell BK24.out 2; have f20 := blk_frozen BK24.out 0; have f21 := blk_frozen BK24.out 1; have f22 := blk_frozen BK24.out 2))
    refine bodyPost_ret (results_ctt rfl _ _ (w.heap.size + 1) 41 #[.int .i64 a0_0, .slice A4 l0_1.length c4, .bool a0_2] (0, 0) _ rfl (three_put BK24.out) Try.underlying41 rfl (by kernel_rfl)) rfl ?_
    refine ⟨_, rfl, S_past HS4.out (by have := HB3.out.size; omega) (fun k hk hlt => three_heap (by have := blk_lt BK23.out; omega)), three_below HB4.out (by omega)⟩
  | true =>
    rw [hm] at hmay
    have HMAY := Aside0.mk hmay
    rw [if_pos hm] at h
    simp only [Option.some.injEq, Prod.mk.injEq] at h
    obtain ⟨rfl, rfl, rfl, rfl, rfl⟩ := h
    obtain ⟨ys, hys⟩ : ∃ ys, l0_1 ++ l1.take (fillN a0_0 a0_2 l0_1.length l1).1 = ys := ⟨_, rfl⟩
    have HYS := Aside0.mk hys
    rw [hys]
    clear hmay hm hys
    go_enter Try.func61, Try.ntmps61
    go_wp2_with (first | (go_at_call 52; refine (tape_May.calls a0_0 A0_1 c0_1 l0_1 a0_2 true _ HC0.out HC01.out HMAY.out).mono ?_; rintro e w3 ⟨rfl, hb⟩; have HB3 := Aside0.mk (below_step HB0.out hb); have HW3 := Aside0.mk (show w.heap.size + 2 ≤ w3.heap.size by have := hb.size; have := HWS.out; omega); have HC3 := Aside0.mk (Kd.C_below HC0.out hb); have BK13 := Aside0.mk (blk_below BK1.out hb); have BK23 := Aside0.mk (blk_below BK2.out hb); clear hb k10 k11 k12; have k10 := blk_cell BK13.out 0; have k11 := blk_cell BK13.out 1; have k12 := blk_cell BK13.out 2) | (go_at_call 60; refine (tape_own.calls a0_0 A0_1 c0_1 l0_1 a0_2 _ _ _ _ HC3.out HC01.out HOWN.out).mono ?_; rintro e w4 ⟨v, rfl, hS, hb⟩; obtain ⟨A4, c4, he⟩ := Kd.S_slice hS; subst he; have HS4 := Aside0.mk hS; have HB34 := Aside0.mk hb; have HB4 := Aside0.mk (below_step HB3.out hb); have BK24 := Aside0.mk (blk_below BK23.out hb); clear hS hb k10 k11 k12) | (go_at_call 70; refine (reel_add.says w4.heap.size a0_0 a0_2 (.slice A4 l0_1.length c4) l0_1 w3.heap.size A1 c1 l1 _ (blk_new w4 _) (Kd.S_below HS4.out (below_alloc (Below.refl _ _) _)) HB34.out.size (Kd.F_mono (Kd.F_step HF1.out (fun k hk _ => (below_alloc HB4.out _).block k hk)) (fun k hk => Nat.lt_of_lt_of_le hk HB3.out.size)) HC1.out (by have h1 := HS.out.1.1; have h2 := HS.out.2.1; omega) (fun r hr => of_decide_eq_true (List.all_eq_true.1 HS.out.2.2 r hr))).mono ?_; rintro e w6 ⟨rfl, hend⟩; rw [HYS.out] at hend; obtain ⟨v6, hbk6, hS6, hB6⟩ := hend; obtain ⟨A6, c6, he6⟩ := Kd.S_slice hS6; subst he6; have HS6 := Aside0.mk hS6; have HB6 := Aside0.mk hB6; have hbk2 := (hB6.block (w.heap.size + 1) (by have := HW3.out; omega)).trans (blk_alloc BK24.out _); have BK26 := Aside0.mk hbk2; have k60 := blk_cell hbk6 0; have k61 := blk_cell hbk6 1; have k62 := blk_cell hbk6 2; have k20 := blk_cell hbk2 0; have k21 := blk_cell hbk2 1; have k22 := blk_cell hbk2 2; have f20 := blk_frozen hbk2 0; have f21 := blk_frozen hbk2 1; have f22 := blk_frozen hbk2 2; clear hS6 hB6 hbk6 hbk2))
    refine bodyPost_ret (results_ctt rfl _ _ (w.heap.size + 1) 41 _ (0, 0) _ rfl (three_put BK26.out) Try.underlying41 rfl (by kernel_rfl)) rfl ?_
    refine ⟨_, rfl, S_past HS6.out HB3.out.size (fun k hk hlt => three_heap (by have := HW3.out; omega)), three_below ((below_alloc HB4.out _).trans (HB6.out.mono HB3.out.size)) (by omega)⟩
theorem V_of_S {α : Type} {d : Kd α} {e : Nat} {W : World} {base : Nat} {v : Value} {xs : List α} (h : Kd.S d e W base (fun _ => True) v xs) : Kd.V d e W base (fun k => base ≤ k) v xs :=
  Kd.S_V (Kd.S_mono (Kd.S_bound h) (fun k hk => hk.2.1))
theorem tape_Fill.calls (a0_0 : Int) (A0_1 : Option Addr) (c0_1 : Nat) (l0_1 : List (List Int)) (a0_2 : Bool) (A1 : Option Addr) (c1 : Nat) (l1 : List (List Int)) (r1 : Int) (r2 : List (List Int)) (r3 : Bool) (r4 : Int) (r5 : Int) (w : World) (hr0_1 : Kd.C (Kd.slice 5 (Kd.int .u8)) w A0_1 l0_1.length l0_1) (hc0_1 : l0_1.length ≤ c0_1)
    (hr1 : Kd.C (Kd.slice 5 (Kd.int .u8)) w A1 l1.length l1) (hc1 : l1.length ≤ c1) (h : tape_Fill.f a0_0 l0_1 a0_2 l1 = some (r1, r2, r3, r4, r5)) :
    Calls Try.prog 61 #[.agg #[.int .i64 a0_0, .slice A0_1 l0_1.length c0_1, .bool a0_2], .slice A1 l1.length c1] w fun e w' => ∃ v1_ : Value, e = .returned (.tuple #[.agg #[.int .i64 r1, v1_, .bool r3], .int .i64 r4, .int .i64 r5]) ∧ Kd.V (Kd.slice 5 (Kd.int .u8)) 25 w' w.heap.size (fun k_ => (w.heap.size ≤ k_)) v1_ r2 ∧ Below w.heap.size w w' :=
  (tape_Fill.says a0_0 A0_1 c0_1 l0_1 a0_2 A1 c1 l1 r1 r2 r3 r4 r5 w hr0_1 hc0_1 hr1 hc1 h).mono (fun e w' hh => by
    obtain ⟨v, he, hS, hB⟩ := hh
    exact ⟨v, he, V_of_S hS, hB⟩)

end Go.Proofs.Ytpbfeegfkiegeaa.M
