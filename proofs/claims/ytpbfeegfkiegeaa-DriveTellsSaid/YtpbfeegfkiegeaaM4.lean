/- Part of a claim: what some functions of the program compute, each with its contract; no condition of its own. Written by a program of this workplace (gen.py, over the print of the kit) and by hand. -/
import Derived.Test.YtpbfeegfkiegeaaM0
namespace Go.Proofs.Ytpbfeegfkiegeaa.M
open Go.RowKit Go.Proofs.YtpbfeegfkiegeaaW.PrintWords Go.Proofs.YtpbfeegfkiegeaaW.PrintLast Go.Proofs.YtpbfeegfkiegeaaW.PrintMore
attribute [local go_sem] max2_int min2_int max_two min_two max_three min_three max_four min_four   -- for this text's walks alone
set_option linter.unusedVariables false
set_option linter.unusedSimpArgs false

theorem add_twice (a : Addr) (m j : Nat) : (a.add m).add j = a.add (m + j) := by
  unfold Addr.add
  by_cases hm : m = 0 <;> by_cases hj : j = 0 <;> simp [hm, hj, Nat.add_assoc]

theorem list_of {α : Type} {Q : Nat → α → Prop} : ∀ n : Nat, (∀ i, i < n → ∃ p, Q i p) → ∃ ps : List α, ps.length = n ∧ ∀ i p, ps[i]? = some p → Q i p
  | 0, _ => ⟨[], rfl, fun i p h => by simp at h⟩
  | n + 1, h => by
    obtain ⟨ps, hl, hp⟩ := list_of n (fun i hi => h i (by omega))
    obtain ⟨p, hq⟩ := h n (by omega)
    refine ⟨ps ++ [p], by simp [hl], fun i q hi => ?_⟩
    rcases Nat.lt_or_ge i ps.length with h1 | h1
    · rw [List.getElem?_append_left h1] at hi
      exact hp i q hi
    · rw [List.getElem?_append_right h1] at hi
      have h2 : i - ps.length = 0 := by
        have := (List.getElem?_eq_some_iff.1 hi).1
        simp at this
        omega
      rw [h2] at hi
      simp only [List.getElem?_cons_zero, Option.some.injEq] at hi
      subst hi
      have : i = n := by omega
      subst this
      exact hq

def Fits (P : Program) (t : TypeId) {α : Type} (d : Kd α) (ok : α → Prop) : Prop :=
  ∀ (H : Type) (enc : TypeId × Value → H) (w : World) (base : Nat) (spare : Nat → Bool) (held : Bool) (fuel : Nat) (cs : List Value) (x : DataW H × List MemPlace),
    DataW.trod enc P w base spare held fuel t cs = some x → ∃ a, d.K w a cs ∧ ok a

theorem fits_int {P : Program} {t : TypeId} {k : IntKind} (ht : P.underlying t = some (.int k)) : Fits P t (Kd.int k) (fun n => (Lit.int k n).wf = true) := by
  intro H enc w base spare held fuel cs x h
  obtain ⟨n, rfl, _, hw⟩ := DataW.trod_int ht h
  exact ⟨n, rfl, hw⟩

theorem fits_bool {P : Program} {t : TypeId} (ht : P.underlying t = some .bool) : Fits P t Kd.bool (fun _ => True) := by
  intro H enc w base spare held fuel cs x h
  obtain ⟨b, rfl, _⟩ := DataW.trod_bool ht h
  exact ⟨b, rfl, trivial⟩

theorem fits_slice {P : Program} {t e : TypeId} {α : Type} {d : Kd α} {ok : α → Prop} (ht : P.underlying t = some (.slice e)) (hsz : P.cellsOf e = d.sz) (hd : Fits P e d ok) :
    Fits P t (Kd.slice e d) (fun xs => xs.length ≤ maxLen ∧ ∀ x ∈ xs, ok x) := by
  intro H enc w base spare held fuel cs x h
  rcases DataW.trod_slice ht h with ⟨rfl, _⟩ | ⟨a, len, cap, elems, rest, n, _, rfl, _, hb, hl, hm, hlen, hel, _, _⟩
  · exact ⟨[], ⟨none, 0, rfl, Nat.le_refl _, rfl, Nat.zero_le _, fun hn => absurd hn (by simp)⟩, Nat.zero_le _, fun x hx => by cases hx⟩
  · obtain ⟨ps, hpl, hps⟩ := list_of (Q := fun i p => ∃ c : List Value, d.K w p c ∧ ok p ∧ ∀ j u, c[j]? = some u → w.cell? (a.add (i * d.sz + j)) = some u) len (fun i hi => by
      have h1 := hel i hi
      rw [List.getElem?_eq_getElem (by omega : i < elems.length), Option.bind_eq_some_iff] at h1
      obtain ⟨c, hc, ht1⟩ := h1
      obtain ⟨p, hK, hok⟩ := hd H enc w base spare held n c _ ht1
      refine ⟨p, c, hK, hok, fun j u hu => ?_⟩
      obtain ⟨_, hl2, hcell⟩ := World.cells?_some hc
      have hj : j < c.length := (List.getElem?_eq_some_iff.1 hu).1
      rw [d.K_len hK] at hj
      have h3 := hcell j (by rw [hsz]; exact hj)
      rw [hu, add_twice, hsz] at h3
      exact h3)
    subst hpl
    refine ⟨ps, ⟨some a, cap, rfl, hl, rfl, ?_, fun _ => ⟨a, rfl, fun j p hj => ?_⟩⟩, Nat.le_trans hl hm, fun p hp => ?_⟩
    · have : ps.length ≤ maxLen := Nat.le_trans hl hm
      unfold maxLen at this
      exact this
    · obtain ⟨c, hK, _, hc⟩ := hps j p hj
      exact ⟨c, d.K_len hK, hK, hc⟩
    · obtain ⟨j, hj⟩ := List.getElem?_of_mem hp
      obtain ⟨_, _, hok, _⟩ := hps j p hj
      exact hok
theorem fits_iso {P : Program} {t : TypeId} {α β : Type} {d : Kd α} {f : β → α} {g : α → β} {ok : α → Prop} (hfg : ∀ x, f (g x) = x) (h : Fits P t d ok) : Fits P t (Kd.iso d f) (fun y => ok (f y)) := by
  intro H enc w base spare held fuel cs x hx
  obtain ⟨a, hK, hok⟩ := h H enc w base spare held fuel cs x hx
  refine ⟨g a, ?_, ?_⟩
  · show d.K w (f (g a)) cs
    rw [hfg]; exact hK
  · show ok (f (g a))
    rw [hfg]; exact hok
theorem fits_struct3 {P : Program} {t : TypeId} {α β γ : Type} {a : Kd α} {b : Kd β} {c : Kd γ} {oka : α → Prop} {okb : β → Prop} {okc : γ → Prop} {f0 f1 f2 : Field}
    (ht : P.underlying t = some (.struct #[f0, f1, f2])) (hsz : P.cellsOf t = a.sz + (b.sz + c.sz)) (ho0 : f0.offset = 0) (ho1 : f1.offset = a.sz) (ho2 : f2.offset = a.sz + b.sz)
    (s0 : P.cellsOf f0.type = a.sz) (s1 : P.cellsOf f1.type = b.sz) (s2 : P.cellsOf f2.type = c.sz)
    (h0 : Fits P f0.type a oka) (h1 : Fits P f1.type b okb) (h2 : Fits P f2.type c okc) : Fits P t (Kd.pair a (Kd.pair b c)) (fun x => oka x.1 ∧ okb x.2.1 ∧ okc x.2.2) := by
  intro H enc w base spare held fuel cs x hx
  obtain ⟨xs, n, _, _, hlen, hxl, hf⟩ := DataW.trod_struct ht hx
  simp only [List.size_toArray, List.length_cons, List.length_nil] at hxl
  have e0 := hf 0 f0 rfl
  have e1 := hf 1 f1 rfl
  have e2 := hf 2 f2 rfl
  rw [ho0, s0, List.drop_zero, List.getElem?_eq_getElem (by omega : 0 < xs.length)] at e0
  rw [ho1, s1, List.getElem?_eq_getElem (by omega : 1 < xs.length)] at e1
  rw [ho2, s2, List.getElem?_eq_getElem (by omega : 2 < xs.length)] at e2
  obtain ⟨p0, k0, o0⟩ := h0 H enc w base spare held n _ _ e0
  obtain ⟨p1, k1, o1⟩ := h1 H enc w base spare held n _ _ e1
  obtain ⟨p2, k2, o2⟩ := h2 H enc w base spare held n _ _ e2
  rw [hsz] at hlen
  refine ⟨(p0, p1, p2), ⟨_, cs.drop a.sz, (List.take_append_drop _ _).symm, k0, _, _, ?_, k1, k2⟩, o0, o1, o2⟩
  rw [← List.drop_drop]
  have h3 : ((cs.drop a.sz).drop b.sz).take c.sz = (cs.drop a.sz).drop b.sz := List.take_of_length_le (by simp; omega)
  rw [h3]
  exact (List.take_append_drop _ _).symm
def RowsOk (l : List (List Int)) : Prop := l.length ≤ maxLen ∧ ∀ x ∈ l, x.length ≤ maxLen ∧ ∀ b ∈ x, (Lit.int .u8 b).wf = true
theorem fits_bytes : Fits Try.prog 25 (Kd.slice 5 (Kd.int .u8)) (fun x => x.length ≤ maxLen ∧ ∀ b ∈ x, (Lit.int .u8 b).wf = true) :=
  fits_slice Try.underlying25 (by kernel_rfl) (fits_int Try.underlying5)
theorem fits_rows : Fits Try.prog 39 (Kd.slice 25 (Kd.slice 5 (Kd.int .u8))) RowsOk :=
  fits_slice Try.underlying39 (by kernel_rfl) fits_bytes

def TapeOk (a : Int) (l : List (List Int)) : Prop := (Lit.int .i64 a).wf = true ∧ RowsOk l
theorem fits_tape : Fits Try.prog 41 k41 (fun x => TapeOk x.f0 x.f1) := by
  intro H enc w base spare held fuel cs x h
  obtain ⟨y, hK, h0, h1, _⟩ := fits_iso (f := fun x : S41 => (x.f0, x.f1, x.f2)) (g := fun p => ⟨p.1, p.2.1, p.2.2⟩) (fun _ => rfl) (fits_struct3 Try.underlying41 (by kernel_rfl) rfl rfl rfl (by kernel_rfl) (by kernel_rfl) (by kernel_rfl) (fits_int Try.underlying3) fits_rows (fits_bool Try.underlying4)) H enc w base spare held fuel cs x h
  exact ⟨y, hK, h0, h1⟩
def DriveOk (l : List S41) (i p : Int) : Prop := l.length ≤ maxLen ∧ (∀ x ∈ l, TapeOk x.f0 x.f1) ∧ (Lit.int .i64 i).wf = true ∧ (Lit.int .i64 p).wf = true
def kDrive : Kd (List S41 × Int × Int) := Kd.pair (Kd.slice 41 k41) (Kd.pair (Kd.int .i64) (Kd.int .i64))
theorem fits_drive : Fits Try.prog 24 kDrive (fun x => DriveOk x.1 x.2.1 x.2.2) := by
  intro H enc w base spare held fuel cs x h
  obtain ⟨y, hK, h0, h1, h2⟩ := fits_struct3 Try.underlying24 (by kernel_rfl) rfl rfl rfl (by kernel_rfl) (by kernel_rfl) (by kernel_rfl) (fits_slice Try.underlying22 (by kernel_rfl) fits_tape) (fits_int Try.underlying3) (fits_int Try.underlying3) H enc w base spare held fuel cs x h
  exact ⟨y, hK, h0.1, h0.2, h1, h2⟩
theorem drive_value {w : World} {x : List S41 × Int × Int} {cs : Array Value} (h : kDrive.K w x (Value.agg cs).cells.toList) : ∃ A c, cs = #[.slice A x.1.length c, .int .i64 x.2.1, .int .i64 x.2.2] ∧ x.1.length ≤ c ∧ Kd.C k41 w A x.1.length x.1 := by
  obtain ⟨_, _, he, ⟨A, c, rfl, hl, hC⟩, ⟨_, _, rfl, rfl, rfl⟩⟩ := h
  refine ⟨A, c, ?_, hl, hC⟩
  have h2 : cs.toList = _ := he
  apply Array.ext'
  rw [h2]
  rfl

theorem V_block {α : Type} {d : Kd α} {e base n c g : Nat} {W : World} {ok : Nat → Prop} {ad : Addr} {xs : List α} (h : Kd.V d e W base ok (.slice (some ad) n c) xs) (hn : 0 < n) (hs : 0 < d.sz) (hok : ∀ k, ok k → k ≠ g) : ad.block ≠ g :=
  hok _ (Kd.F_in (Kd.V_F h) rfl hn hs)
theorem idx_pos {i : Int} {n : Nat} (h0 : decide (0 ≤ i) = true) (h1 : decide (i < (n : Int)) = true) : 0 < n := by
  have h2 := of_decide_eq_true h0
  have h3 := of_decide_eq_true h1
  omega

def record_factor.f (a0 : Int) : Option (Bool) := if a0 ≥ 1 then (some (decide (a0 ≤ 20))) else (some false)
set_option maxHeartbeats 8000000 in
set_option maxRecDepth 100000 in
theorem record_factor.calls (a0 : Int) (r : Bool) (w : World) (h : record_factor.f a0 = some r) :
    Calls Try.prog 59 #[.int .i64 a0] w fun e w' => e = .returned (.bool r) ∧ Drawn0 w w' := by
  have H : (if a0 ≥ 1 then (some (decide (a0 ≤ 20))) else (some false)) = some r := h
  clear h
  by_cases c2 : a0 ≥ 1
  · rw [if_pos c2] at H
    have c2b0 : decide (1 ≤ a0) = true := decide_eq_true c2
    clear c2
    obtain rfl := Option.some.inj H
    go_enter Try.func59, Try.ntmps59
    go_wp2
    go_ret
    exact ⟨by first | rfl | (simp; done) | (simp [*]; done), by repeat (first | exact Drawn0.refl _ | apply Drawn0.step)⟩
  · rw [if_neg c2] at H
    have c2b0 : decide (1 ≤ a0) = false := decide_eq_false c2
    clear c2
    obtain rfl := Option.some.inj H
    go_enter Try.func59, Try.ntmps59
    go_wp2
    go_ret
    exact ⟨by first | rfl | (simp; done) | (simp [*]; done), by repeat (first | exact Drawn0.refl _ | apply Drawn0.step)⟩

def record_May.f (l0 : List Int) : Option (Bool) := if ((l0.length : Int) % 512) = 0 then ((record_factor.f (wrap64 ((l0.length : Int) / 512))).bind fun t110 => (some t110)) else (some false)
set_option maxHeartbeats 8000000 in
set_option maxRecDepth 100000 in
theorem record_May.calls (A0 : Option Addr) (c0 : Nat) (l0 : List Int) (r : Bool) (w : World) (hr0 : Kd.C (Kd.int .u8) w A0 l0.length l0) (hc0 : l0.length ≤ c0) (h : record_May.f l0 = some r) :
    Calls Try.prog 39 #[.slice A0 l0.length c0] w fun e w' => e = .returned (.bool r) ∧ Drawn0 w w' := by
  have HR0 := Aside0.mk hr0
  have HC0 := Aside0.mk hc0
  clear hr0 hc0
  have H : (if ((l0.length : Int) % 512) = 0 then ((record_factor.f (wrap64 ((l0.length : Int) / 512))).bind fun t110 => (some t110)) else (some false)) = some r := h
  clear h
  by_cases c2 : ((l0.length : Int) % 512) = 0
  · rw [if_pos c2] at H
    have c2b0 : (((l0.length : Int) % 512) == 0) = true := beq_iff_eq.mpr c2
    have c2b1 : (((l0.length : Int) % 512) != 0) = false := bne_eq_false_iff_eq.mpr c2
    clear c2
    replace H := Option.bind_eq_some_iff.mp H
    obtain ⟨t110, A30, H⟩ := H
    replace H : (some t110) = some r := H
    have A3 := Aside0.mk A30
    clear A30
    obtain rfl := Option.some.inj H
    go_enter Try.func39, Try.ntmps39
    go_wp2_with (first | (go_at_call 59; (with_reducible refine (record_factor.calls (wrap64 ((l0.length : Int) / 512)) t110 _ A3.out).mono ?_); rintro e w' ⟨rfl, ⟨nd, rfl⟩⟩))
    go_ret
    exact ⟨by first | rfl | (simp; done) | (simp [*]; done), by repeat (first | exact Drawn0.refl _ | apply Drawn0.step)⟩
  · rw [if_neg c2] at H
    have c2b0 : (((l0.length : Int) % 512) == 0) = false := beq_eq_false_iff_ne.mpr c2
    have c2b1 : (((l0.length : Int) % 512) != 0) = true := bne_iff_ne.mpr c2
    obtain rfl := Option.some.inj H
    go_enter Try.func39, Try.ntmps39
    go_wp2
    go_ret
    exact ⟨by first | rfl | (simp; done) | (simp [*]; done), by repeat (first | exact Drawn0.refl _ | apply Drawn0.step)⟩

def recMay (r : List Int) : Bool := decide (r.length % 512 = 0) && (decide (1 ≤ r.length / 512) && decide (r.length / 512 ≤ 20))
theorem recMay_f (r : List Int) (hr : r.length ≤ 9223372036854775807) : record_May.f r = some (recMay r) := by
  unfold record_May.f record_factor.f recMay
  by_cases h1 : r.length % 512 = 0
  · rw [if_pos (by omega), show wrap64 ((r.length : Int) / 512) = ((r.length / 512 : Nat) : Int) by unfold wrap64; omega]
    by_cases h2 : 1 ≤ r.length / 512
    · rw [if_pos (by omega), Option.bind_some, decide_eq_true h1, decide_eq_true h2]
      by_cases h3 : r.length / 512 ≤ 20
      · rw [decide_eq_true h3, decide_eq_true (by omega)]; rfl
      · rw [decide_eq_false h3, decide_eq_false (by omega)]; rfl
    · rw [if_neg (by omega), Option.bind_some, decide_eq_true h1, decide_eq_false h2]; rfl
  · rw [if_neg (by omega), decide_eq_false h1]; rfl

end Go.Proofs.Ytpbfeegfkiegeaa.M
