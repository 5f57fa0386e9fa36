/- Part of a claim: what some functions of the program compute, each with its contract; no condition of its own. Written by a program of this workplace (gen.py, over the print of the kit) and by hand. -/
import Derived.Test.YtdbnglmcimckmaaM0
import Derived.Test.YtdbnglmcimckmaaM4
import Derived.Test.YtdbnglmcimckmaaM5
import Derived.Test.YtdbnglmcimckmaaM6
import Derived.Test.YtdbnglmcimckmaaM7
import Derived.Test.YtdbnglmcimckmaaM9
import Derived.Test.YtdbnglmcimckmaaM12
import Derived.Test.YtdbnglmcimckmaaM13
import Derived.Test.YtdbnglmcimckmaaM15
import Derived.Test.YtdbnglmcimckmaaM17
import Derived.Test.YtdbnglmcimckmaaM19
import Derived.Test.YtdbnglmcimckmaaM20
import Derived.Test.YtdbnglmcimckmaaM21
import Derived.Test.YtdbnglmcimckmaaM23
import Derived.Test.YtdbnglmcimckmaaM24
import Derived.Test.YtdbnglmcimckmaaM26
import Derived.Test.YtdbnglmcimckmaaM27
namespace Go.Proofs.Ytdbnglmcimckmaa.M
open Go.RowKit Go.Proofs.YtdbnglmcimckmaaW.PrintWords Go.Proofs.YtdbnglmcimckmaaW.PrintLast Go.Proofs.YtdbnglmcimckmaaW.PrintMore
attribute [local go_sem] max2_int min2_int max_two min_two max_three min_three max_four min_four   -- for this text's walks alone
set_option linter.unusedVariables false
set_option linter.unusedSimpArgs false

/-! ### reelkeeperlaw03_BlockTells: function 3 -/
/-- All that the law asks of its callees, told once: the two sides of each comparison are the same. -/
structure TellsAll (k : Nat) (l0 l1 : List (List Int)) (a2 : ByteArray) (a3 : Int) : Prop where
  text : ∃ t1 t2, block_Text.f l0 a3 = some (t1, t2) ∧ reelkeeperref03_Text.f k l0 a3 = some (t1, t2)
  cut : ∃ x y, block_Cut.f a2 = some x ∧ reelkeeperref03_Cut.f k a2 = some y ∧ reelkeeperref03_Same.f x y = some true
  zeros : ∃ z zz, block_Zeros.f k a3 = some z ∧ reelkeeperref03_Zeros.f k a3 = some zz ∧ reelkeeperref03_Same.f z zz = some true
  may : ∃ m, reelkeeperref03_May.f k l0 = some m ∧ block_May.f l0 = some m
  same : ∃ m, reelkeeperref03_Same.f l0 l1 = some m ∧ block_Same.f l0 l1 = some m
  zero : ∃ m, reelkeeperref03_Zero.f k (bytesOf a2) = some m ∧ block_Zero.f (bytesOf a2) = some m
  many : ∃ m, block_Many.f a3 = some m ∧ reelkeeperref03_Many.f a3 = some m
open Classical in
noncomputable def reelkeeperlaw03_BlockTells.f (k : Nat) (l0 : List (List Int)) (l1 : List (List Int)) (a2 : ByteArray) (a3 : Int) : Option Bool :=
  (reelkeeperlaw03_awake.f k).bind fun up => (reelkeeperlaw03_Few.f k l0).bind fun fa => (reelkeeperlaw03_Few.f k l1).bind fun fb =>
    if up = true ∧ fa = true ∧ fb = true ∧ (a2.size : Int) ≤ 5000 then (if TellsAll k l0 l1 a2 a3 then some true else none) else some up
theorem bytes_C (W : World) (s : ByteArray) (hs : s.size ≤ 9223372036854775807) : Kd.C (Kd.int .u8) (Lib.bytesWorld W 5 s) (some ⟨W.heap.size, 0, none⟩) (bytesOf s).length (bytesOf s) := by
  have h := bytes_reads W 5 s hs
  rw [← bytesOf_length s] at h
  exact Kd.C_of_reads (enc := Value.int .u8) (d := (0 : Int)) (h1 := fun _ => rfl) h
theorem below_bytes {w W : World} (h : Below w.heap.size w W) (e : TypeId) (s : ByteArray) : Below w.heap.size w (Lib.bytesWorld W e s) := bytes_below h h.size e s
theorem bytes_cap (W : World) (s : ByteArray) : (bytesOf s).length ≤ grownCap W s.size 0 5 := by
  rw [bytesOf_length]
  exact grownCap_ge _ _ _ _
set_option maxHeartbeats 8000000 in
set_option maxRecDepth 100000 in
theorem reelkeeperlaw03_BlockTells.calls (k : Nat) (A0 : Option Addr) (c0 : Nat) (l0 : List (List Int)) (A1 : Option Addr) (c1 : Nat) (l1 : List (List Int)) (a2 : ByteArray) (a3 : Int) (r : Bool) (w : World) (hr0 : Kd.C (Kd.slice 5 (Kd.int .u8)) w A0 l0.length l0) (hc0 : l0.length ≤ c0)
    (hr1 : Kd.C (Kd.slice 5 (Kd.int .u8)) w A1 l1.length l1) (hc1 : l1.length ≤ c1) (h : reelkeeperlaw03_BlockTells.f k l0 l1 a2 a3 = some r) :
    Calls Try.prog 3 #[.slice A0 l0.length c0, .slice A1 l1.length c1, .string a2, .int .i64 a3] w fun e w' => e = .returned (.bool r) ∧ Below w.heap.size w w' := by
  have HB := Aside0.mk (Below.refl w.heap.size w)
  have HR0 := Aside0.mk hr0
  have HC0 := Aside0.mk hc0
  have HR1 := Aside0.mk hr1
  have HC1 := Aside0.mk hc1
  clear hr0 hc0 hr1 hc1
  unfold reelkeeperlaw03_BlockTells.f at h
  obtain ⟨up, hu, ha⟩ := Option.bind_eq_some_iff.1 h
  clear h
  obtain ⟨fa, hfa, hb⟩ := Option.bind_eq_some_iff.1 ha
  clear ha
  obtain ⟨fb, hfb, h⟩ := Option.bind_eq_some_iff.1 hb
  clear hb
  have HU := Aside0.mk hu
  have HFA := Aside0.mk hfa
  have HFB := Aside0.mk hfb
  clear hu hfa hfb
  by_cases hc : up = true ∧ fa = true ∧ fb = true ∧ (a2.size : Int) ≤ 5000
  · rw [if_pos hc] at h
    obtain ⟨rfl, rfl, rfl, hsz⟩ := hc
    by_cases ht : TellsAll k l0 l1 a2 a3
    case neg => rw [if_neg ht] at h; cases h
    rw [if_pos ht] at h
    obtain rfl := Option.some.inj h
    obtain ⟨⟨t1, t2, h1, h2⟩, ⟨x, y, h3, h4, h5⟩, ⟨z, zz, h6, h7, h8⟩, ⟨may, h9, h10⟩, ⟨same, h11, h12⟩, ⟨zero, h13, h14⟩, ⟨m, h15, h16⟩⟩ := ht
    have HT := Aside0.mk h1
    have HRT := Aside0.mk h2
    have HCUT := Aside0.mk h3
    have HRCUT := Aside0.mk h4
    have HCS := Aside0.mk h5
    have HZ := Aside0.mk h6
    have HRZ := Aside0.mk h7
    have HZS := Aside0.mk h8
    have HMAY := Aside0.mk h9
    have HMAY2 := Aside0.mk h10
    have HSAME := Aside0.mk h11
    have HSAME2 := Aside0.mk h12
    have HZERO := Aside0.mk h13
    have HZERO2 := Aside0.mk h14
    have HM := Aside0.mk h15
    have HRM := Aside0.mk h16
    have HSZ := Aside0.mk (show a2.size ≤ 9223372036854775807 by omega)
    have d1 : decide ((5000 : Int) < (a2.size : Int)) = false := decide_eq_false (by omega)
    have kb : ∀ W : World, (convert 9 31 (.string a2)).run Try.prog W = .ok (.slice (some ⟨W.heap.size, 0, none⟩) (bytesOf a2).length (grownCap W a2.size 0 5)) (Lib.bytesWorld W 5 a2) := fun W => by
      rw [bytesOf_length]
      exact print_bytes 9 31 5 Try.underlying9 Try.underlying31 Try.underlying5 a2 W
    clear h h1 h2 h3 h4 h5 h6 h7 h8 h9 h10 h11 h12 h13 h14 h15 h16 hsz
    go_enter Try.func3, Try.ntmps3
    go_wp2_with (first | (go_at_call 10; (with_reducible refine (reelkeeperlaw03_awake.calls k _ _ HU.out).mono ?_); rintro e wu ⟨rfl, hb⟩; have hb_ := Aside0.mk (below_step (by repeat (first | exact HB.out | apply pw_below_drewN | apply below_alloc | apply below_bytes)) hb); clear HB hb; have HB := hb_; clear hb_) | (go_at_call 11; (with_reducible refine (reelkeeperlaw03_Few.calls k A0 c0 l0 _ _ ?s1 HC0.out HFA.out).mono ?_); (case s1 => exact Kd.C_below HR0.out (by repeat (first | exact HB.out | apply pw_below_drewN | apply below_alloc | apply below_bytes))); rintro e w' ⟨rfl, ⟨m_, rfl⟩⟩) | (go_at_call 11; (with_reducible refine (reelkeeperlaw03_Few.calls k A1 c1 l1 _ _ ?s1 HC1.out HFB.out).mono ?_); (case s1 => exact Kd.C_below HR1.out (by repeat (first | exact HB.out | apply pw_below_drewN | apply below_alloc | apply below_bytes))); rintro e w' ⟨rfl, ⟨m_, rfl⟩⟩) | (go_at_call 12; (with_reducible refine (block_Text.calls A0 c0 l0 a3 t1 t2 _ ?s1 HC0.out HT.out).mono ?_); (case s1 => exact Kd.C_below HR0.out (by repeat (first | exact HB.out | apply pw_below_drewN | apply below_alloc | apply below_bytes))); rintro e wt ⟨rfl, hb⟩; have hb_ := Aside0.mk (below_step (by repeat (first | exact HB.out | apply pw_below_drewN | apply below_alloc | apply below_bytes)) hb); clear HB hb; have HB := hb_; clear hb_) | (go_at_call 13; (with_reducible refine (reelkeeperref03_Text.calls k A0 c0 l0 a3 t1 t2 _ ?s1 HC0.out HRT.out).mono ?_); (case s1 => exact Kd.C_below HR0.out (by repeat (first | exact HB.out | apply pw_below_drewN | apply below_alloc | apply below_bytes))); rintro e wrt ⟨rfl, hb⟩; have hb_ := Aside0.mk (below_step (by repeat (first | exact HB.out | apply pw_below_drewN | apply below_alloc | apply below_bytes)) hb); clear HB hb; have HB := hb_; clear hb_) | (go_at_call 15; (with_reducible refine (block_Cut.calls a2 x _ HCUT.out).mono ?_); rintro e wx ⟨v, rfl, hS, hb⟩; obtain ⟨Ax, cx, he⟩ := Kd.S_slice hS; subst he; have hrx := Kd.R_reads' (Kd.S_R hS); have hb_ := Aside0.mk (below_step (by repeat (first | exact HB.out | apply pw_below_drewN | apply below_alloc | apply below_bytes)) hb); clear HB; have HB := hb_; clear hb_; have HLx := Aside0.mk hrx.2.1; have HXx := Aside0.mk hrx.2.2; clear hrx hS; clear hb) | (go_at_call 16; (with_reducible refine (reelkeeperref03_Cut.calls k a2 y _ HRCUT.out).mono ?_); rintro e wy ⟨v, rfl, hS, hb⟩; obtain ⟨Ay, cy, he⟩ := Kd.S_slice hS; subst he; have hry := Kd.R_reads' (Kd.S_R hS); have hb_ := Aside0.mk (below_step (by repeat (first | exact HB.out | apply pw_below_drewN | apply below_alloc | apply below_bytes)) hb); clear HB; have HB := hb_; clear hb_; have HLy := Aside0.mk hry.2.1; have HXy := Aside0.mk hry.2.2; clear hry hS; have HXX := Aside0.mk (Kd.C_below HXx.out hb); clear hb) | (go_at_call 14; (with_reducible refine (reelkeeperref03_Same.calls Ax cx x Ay cy y true _ HXX.out HLx.out HXy.out HLy.out HCS.out).mono ?_); rintro e w' ⟨rfl, ⟨m_, rfl⟩⟩) | (go_at_call 17; (with_reducible refine (block_Zeros.calls k a3 z _ HZ.out).mono ?_); rintro e wz ⟨v, rfl, hS, hb⟩; obtain ⟨Az, cz, he⟩ := Kd.S_slice hS; subst he; have hrz := Kd.R_reads' (Kd.S_R hS); have hb_ := Aside0.mk (below_step (by repeat (first | exact HB.out | apply pw_below_drewN | apply below_alloc | apply below_bytes)) hb); clear HB; have HB := hb_; clear hb_; have HLz := Aside0.mk hrz.2.1; have HXz := Aside0.mk hrz.2.2; clear hrz hS; clear hb) | (go_at_call 18; (with_reducible refine (reelkeeperref03_Zeros.calls k a3 zz _ HRZ.out).mono ?_); rintro e wzz ⟨v, rfl, hS, hb⟩; obtain ⟨Azz, czz, he⟩ := Kd.S_slice hS; subst he; have hrzz := Kd.R_reads' (Kd.S_R hS); have hb_ := Aside0.mk (below_step (by repeat (first | exact HB.out | apply pw_below_drewN | apply below_alloc | apply below_bytes)) hb); clear HB; have HB := hb_; clear hb_; have HLzz := Aside0.mk hrzz.2.1; have HXzz := Aside0.mk hrzz.2.2; clear hrzz hS; have HXZ := Aside0.mk (Kd.C_below HXz.out hb); clear hb) | (go_at_call 14; (with_reducible refine (reelkeeperref03_Same.calls Az cz z Azz czz zz true _ HXZ.out HLz.out HXzz.out HLzz.out HZS.out).mono ?_); rintro e w' ⟨rfl, ⟨m_, rfl⟩⟩) | (go_at_call 19; (with_reducible refine (reelkeeperref03_May.calls k A0 c0 l0 may _ ?s1 HC0.out HMAY.out).mono ?_); (case s1 => exact Kd.C_below HR0.out (by repeat (first | exact HB.out | apply pw_below_drewN | apply below_alloc | apply below_bytes))); rintro e w' ⟨rfl, ⟨m_, rfl⟩⟩) | (go_at_call 14; (with_reducible refine (reelkeeperref03_Same.calls A0 c0 l0 A1 c1 l1 same _ ?s1 HC0.out ?s2 HC1.out HSAME.out).mono ?_); (case s1 => exact Kd.C_below HR0.out (by repeat (first | exact HB.out | apply pw_below_drewN | apply below_alloc | apply below_bytes))); (case s2 => exact Kd.C_below HR1.out (by repeat (first | exact HB.out | apply pw_below_drewN | apply below_alloc | apply below_bytes))); rintro e w' ⟨rfl, ⟨m_, rfl⟩⟩) | (go_at_call 20; (with_reducible refine (reelkeeperref03_Zero.calls k _ _ (bytesOf a2) zero _ ?s1 ?s2 HZERO.out).mono ?_); (case s1 => exact bytes_C _ a2 HSZ.out); (case s2 => exact bytes_cap _ a2); rintro e w' ⟨rfl, ⟨m_, rfl⟩⟩) | (go_at_call 21; (with_reducible refine (block_Many.calls a3 m _ HM.out).mono ?_); rintro e w' ⟨rfl, ⟨m_, rfl⟩⟩) | (go_at_call 22; (with_reducible refine (reelkeeperref03_Many.calls a3 m _ HRM.out).mono ?_); rintro e w' ⟨rfl, ⟨m_, rfl⟩⟩) | (go_at_call 23; (with_reducible refine (block_May.calls A0 c0 l0 may _ ?s1 HC0.out HMAY2.out).mono ?_); (case s1 => exact Kd.C_below HR0.out (by repeat (first | exact HB.out | apply pw_below_drewN | apply below_alloc | apply below_bytes))); rintro e w' ⟨rfl, ⟨m_, rfl⟩⟩) | (go_at_call 24; (with_reducible refine (block_Same.calls A0 c0 l0 A1 c1 l1 same _ ?s1 HC0.out ?s2 HC1.out HSAME2.out).mono ?_); (case s1 => exact Kd.C_below HR0.out (by repeat (first | exact HB.out | apply pw_below_drewN | apply below_alloc | apply below_bytes))); (case s2 => exact Kd.C_below HR1.out (by repeat (first | exact HB.out | apply pw_below_drewN | apply below_alloc | apply below_bytes))); rintro e w' ⟨rfl, ⟨m_, rfl⟩⟩) | (go_at_call 25; (with_reducible refine (block_Zero.calls _ _ (bytesOf a2) zero _ ?s1 ?s2 HZERO2.out).mono ?_); (case s1 => exact bytes_C _ a2 HSZ.out); (case s2 => exact bytes_cap _ a2); rintro e w' ⟨rfl, ⟨m_, rfl⟩⟩))
    go_ret
    exact ⟨by first | rfl | (simp; done), by repeat (first | exact HB.out | apply pw_below_drewN | apply below_alloc | apply below_bytes)⟩
  · rw [if_neg hc] at h
    obtain rfl := Option.some.inj h
    cases up with
    | false =>
      clear hc h
      go_enter Try.func3, Try.ntmps3
      go_wp2_with (first | (go_at_call 10; (with_reducible refine (reelkeeperlaw03_awake.calls k _ _ HU.out).mono ?_); rintro e wu ⟨rfl, hb⟩; have hb_ := Aside0.mk (below_step (by repeat (first | exact HB.out | apply pw_below_drewN | apply below_alloc | apply below_bytes)) hb); clear HB hb; have HB := hb_; clear hb_) | (go_at_call 11; (with_reducible refine (reelkeeperlaw03_Few.calls k A0 c0 l0 _ _ ?s1 HC0.out HFA.out).mono ?_); (case s1 => exact Kd.C_below HR0.out (by repeat (first | exact HB.out | apply pw_below_drewN | apply below_alloc | apply below_bytes))); rintro e w' ⟨rfl, ⟨m_, rfl⟩⟩) | (go_at_call 11; (with_reducible refine (reelkeeperlaw03_Few.calls k A1 c1 l1 _ _ ?s1 HC1.out HFB.out).mono ?_); (case s1 => exact Kd.C_below HR1.out (by repeat (first | exact HB.out | apply pw_below_drewN | apply below_alloc | apply below_bytes))); rintro e w' ⟨rfl, ⟨m_, rfl⟩⟩))
      go_ret
      exact ⟨by first | rfl | (simp; done), by repeat (first | exact HB.out | apply pw_below_drewN | apply below_alloc | apply below_bytes)⟩
    | true =>
      cases fa with
      | false =>
        clear hc h
        go_enter Try.func3, Try.ntmps3
        go_wp2_with (first | (go_at_call 10; (with_reducible refine (reelkeeperlaw03_awake.calls k _ _ HU.out).mono ?_); rintro e wu ⟨rfl, hb⟩; have hb_ := Aside0.mk (below_step (by repeat (first | exact HB.out | apply pw_below_drewN | apply below_alloc | apply below_bytes)) hb); clear HB hb; have HB := hb_; clear hb_) | (go_at_call 11; (with_reducible refine (reelkeeperlaw03_Few.calls k A0 c0 l0 _ _ ?s1 HC0.out HFA.out).mono ?_); (case s1 => exact Kd.C_below HR0.out (by repeat (first | exact HB.out | apply pw_below_drewN | apply below_alloc | apply below_bytes))); rintro e w' ⟨rfl, ⟨m_, rfl⟩⟩) | (go_at_call 11; (with_reducible refine (reelkeeperlaw03_Few.calls k A1 c1 l1 _ _ ?s1 HC1.out HFB.out).mono ?_); (case s1 => exact Kd.C_below HR1.out (by repeat (first | exact HB.out | apply pw_below_drewN | apply below_alloc | apply below_bytes))); rintro e w' ⟨rfl, ⟨m_, rfl⟩⟩))
        go_ret
        exact ⟨by first | rfl | (simp; done), by repeat (first | exact HB.out | apply pw_below_drewN | apply below_alloc | apply below_bytes)⟩
      | true =>
        cases fb with
        | false =>
          clear hc h
          go_enter Try.func3, Try.ntmps3
          go_wp2_with (first | (go_at_call 10; (with_reducible refine (reelkeeperlaw03_awake.calls k _ _ HU.out).mono ?_); rintro e wu ⟨rfl, hb⟩; have hb_ := Aside0.mk (below_step (by repeat (first | exact HB.out | apply pw_below_drewN | apply below_alloc | apply below_bytes)) hb); clear HB hb; have HB := hb_; clear hb_) | (go_at_call 11; (with_reducible refine (reelkeeperlaw03_Few.calls k A0 c0 l0 _ _ ?s1 HC0.out HFA.out).mono ?_); (case s1 => exact Kd.C_below HR0.out (by repeat (first | exact HB.out | apply pw_below_drewN | apply below_alloc | apply below_bytes))); rintro e w' ⟨rfl, ⟨m_, rfl⟩⟩) | (go_at_call 11; (with_reducible refine (reelkeeperlaw03_Few.calls k A1 c1 l1 _ _ ?s1 HC1.out HFB.out).mono ?_); (case s1 => exact Kd.C_below HR1.out (by repeat (first | exact HB.out | apply pw_below_drewN | apply below_alloc | apply below_bytes))); rintro e w' ⟨rfl, ⟨m_, rfl⟩⟩))
          go_ret
          exact ⟨by first | rfl | (simp; done), by repeat (first | exact HB.out | apply pw_below_drewN | apply below_alloc | apply below_bytes)⟩
        | true =>
          have d1 : decide ((5000 : Int) < (a2.size : Int)) = true := decide_eq_true (by simp at hc; omega)
          clear hc h
          go_enter Try.func3, Try.ntmps3
          go_wp2_with (first | (go_at_call 10; (with_reducible refine (reelkeeperlaw03_awake.calls k _ _ HU.out).mono ?_); rintro e wu ⟨rfl, hb⟩; have hb_ := Aside0.mk (below_step (by repeat (first | exact HB.out | apply pw_below_drewN | apply below_alloc | apply below_bytes)) hb); clear HB hb; have HB := hb_; clear hb_) | (go_at_call 11; (with_reducible refine (reelkeeperlaw03_Few.calls k A0 c0 l0 _ _ ?s1 HC0.out HFA.out).mono ?_); (case s1 => exact Kd.C_below HR0.out (by repeat (first | exact HB.out | apply pw_below_drewN | apply below_alloc | apply below_bytes))); rintro e w' ⟨rfl, ⟨m_, rfl⟩⟩) | (go_at_call 11; (with_reducible refine (reelkeeperlaw03_Few.calls k A1 c1 l1 _ _ ?s1 HC1.out HFB.out).mono ?_); (case s1 => exact Kd.C_below HR1.out (by repeat (first | exact HB.out | apply pw_below_drewN | apply below_alloc | apply below_bytes))); rintro e w' ⟨rfl, ⟨m_, rfl⟩⟩))
          go_ret
          exact ⟨by first | rfl | (simp; done), by repeat (first | exact HB.out | apply pw_below_drewN | apply below_alloc | apply below_bytes)⟩

end Go.Proofs.Ytdbnglmcimckmaa.M
