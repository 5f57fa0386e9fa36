/- Part of a claim: what some functions of the program compute, each with its contract; no condition of its own. Written by a program of this workplace (gen.py, over the print of the kit) and by hand. -/
import Derived.Test.YtkhepijngopmbaaM0
namespace Go.Proofs.Ytkhepijngopmbaa.M
open Go.RowKit Go.Proofs.YtkhepijngopmbaaW.PrintWords Go.Proofs.YtkhepijngopmbaaW.PrintLast Go.Proofs.YtkhepijngopmbaaW.PrintMore
attribute [local go_sem] max2_int min2_int max_two min_two max_three min_three max_four min_four   -- for this text's walks alone
set_option linter.unusedVariables false
set_option linter.unusedSimpArgs false

/-! ### Openers: an argument that can be read as data is of the kinds of the print -/
theorem add_twice (a : Addr) (m j : Nat) : (a.add m).add j = a.add (m + j) := by
  unfold Addr.add
  by_cases hm : m = 0 <;> by_cases hj : j = 0 <;> simp [hm, hj, Nat.add_assoc]

theorem list_of {α : Type} {Q : Nat → α → Prop} : ∀ n : Nat, (∀ i, i < n → ∃ p, Q i p) → ∃ ps : List α, ps.length = n ∧ ∀ i p, ps[i]? = some p → Q i p
  | 0, _ => ⟨[], rfl, fun i p h => by simp at h⟩
  | n + 1, h => by
    obtain ⟨ps, hl, hp⟩ := list_of n (fun i hi => h i (by omega))
    obtain ⟨p, hq⟩ := h n (by omega)
    refine ⟨ps ++ [p], by simp [hl], fun i q hi => ?_⟩
    rcases Nat.lt_or_ge i ps.length with h1 | h1
    · rw [List.getElem?_append_left h1] at hi
      exact hp i q hi
    · rw [List.getElem?_append_right h1] at hi
      have h2 : i - ps.length = 0 := by
        have := (List.getElem?_eq_some_iff.1 hi).1
        simp at this
        omega
      rw [h2] at hi
      simp only [List.getElem?_cons_zero, Option.some.injEq] at hi
      subst hi
      have : i = n := by omega
      subst this
      exact hq

/-- Whatever can be read at type t is of kind d; 'ok' holds of it. -/
def Fits (P : Program) (t : TypeId) {α : Type} (d : Kd α) (ok : α → Prop) : Prop :=
  ∀ (H : Type) (enc : TypeId × Value → H) (w : World) (base : Nat) (spare : Nat → Bool) (held : Bool) (fuel : Nat) (cs : List Value) (x : DataW H × List MemPlace),
    DataW.trod enc P w base spare held fuel t cs = some x → ∃ a, d.K w a cs ∧ ok a

theorem fits_int {P : Program} {t : TypeId} {k : IntKind} (ht : P.underlying t = some (.int k)) : Fits P t (Kd.int k) (fun n => (Lit.int k n).wf = true) := by
  intro H enc w base spare held fuel cs x h
  obtain ⟨n, rfl, _, hw⟩ := DataW.trod_int ht h
  exact ⟨n, rfl, hw⟩

theorem fits_bool {P : Program} {t : TypeId} (ht : P.underlying t = some .bool) : Fits P t Kd.bool (fun _ => True) := by
  intro H enc w base spare held fuel cs x h
  obtain ⟨b, rfl, _⟩ := DataW.trod_bool ht h
  exact ⟨b, rfl, trivial⟩

theorem fits_slice {P : Program} {t e : TypeId} {α : Type} {d : Kd α} {ok : α → Prop} (ht : P.underlying t = some (.slice e)) (hsz : P.cellsOf e = d.sz) (hd : Fits P e d ok) :
    Fits P t (Kd.slice e d) (fun xs => xs.length ≤ maxLen ∧ ∀ x ∈ xs, ok x) := by
  intro H enc w base spare held fuel cs x h
  rcases DataW.trod_slice ht h with ⟨rfl, _⟩ | ⟨a, len, cap, elems, rest, n, _, rfl, _, hb, hl, hm, hlen, hel, _, _⟩
  · exact ⟨[], ⟨none, 0, rfl, Nat.le_refl _, rfl, Nat.zero_le _, fun hn => absurd hn (by simp)⟩, Nat.zero_le _, fun x hx => by cases hx⟩
  · obtain ⟨ps, hpl, hps⟩ := list_of (Q := fun i p => ∃ c : List Value, d.K w p c ∧ ok p ∧ ∀ j u, c[j]? = some u → w.cell? (a.add (i * d.sz + j)) = some u) len (fun i hi => by
      have h1 := hel i hi
      rw [List.getElem?_eq_getElem (by omega : i < elems.length), Option.bind_eq_some_iff] at h1
      obtain ⟨c, hc, ht1⟩ := h1
      obtain ⟨p, hK, hok⟩ := hd H enc w base spare held n c _ ht1
      refine ⟨p, c, hK, hok, fun j u hu => ?_⟩
      obtain ⟨_, hl2, hcell⟩ := World.cells?_some hc
      have hj : j < c.length := (List.getElem?_eq_some_iff.1 hu).1
      rw [d.K_len hK] at hj
      have h3 := hcell j (by rw [hsz]; exact hj)
      rw [hu, add_twice, hsz] at h3
      exact h3)
    subst hpl
    refine ⟨ps, ⟨some a, cap, rfl, hl, rfl, ?_, fun _ => ⟨a, rfl, fun j p hj => ?_⟩⟩, Nat.le_trans hl hm, fun p hp => ?_⟩
    · have : ps.length ≤ maxLen := Nat.le_trans hl hm
      unfold maxLen at this
      exact this
    · obtain ⟨c, hK, _, hc⟩ := hps j p hj
      exact ⟨c, d.K_len hK, hK, hc⟩
    · obtain ⟨j, hj⟩ := List.getElem?_of_mem hp
      obtain ⟨_, _, hok, _⟩ := hps j p hj
      exact hok
/-- A struct of two, or three, fields. -/
theorem fits_iso {P : Program} {t : TypeId} {α β : Type} {d : Kd α} {f : β → α} {g : α → β} {ok : α → Prop} (hfg : ∀ x, f (g x) = x) (h : Fits P t d ok) : Fits P t (Kd.iso d f) (fun y => ok (f y)) := by
  intro H enc w base spare held fuel cs x hx
  obtain ⟨a, hK, hok⟩ := h H enc w base spare held fuel cs x hx
  refine ⟨g a, ?_, ?_⟩
  · show d.K w (f (g a)) cs
    rw [hfg]; exact hK
  · show ok (f (g a))
    rw [hfg]; exact hok
theorem fits_struct3 {P : Program} {t : TypeId} {α β γ : Type} {a : Kd α} {b : Kd β} {c : Kd γ} {oka : α → Prop} {okb : β → Prop} {okc : γ → Prop} {f0 f1 f2 : Field}
    (ht : P.underlying t = some (.struct #[f0, f1, f2])) (hsz : P.cellsOf t = a.sz + (b.sz + c.sz)) (ho0 : f0.offset = 0) (ho1 : f1.offset = a.sz) (ho2 : f2.offset = a.sz + b.sz)
    (s0 : P.cellsOf f0.type = a.sz) (s1 : P.cellsOf f1.type = b.sz) (s2 : P.cellsOf f2.type = c.sz)
    (h0 : Fits P f0.type a oka) (h1 : Fits P f1.type b okb) (h2 : Fits P f2.type c okc) : Fits P t (Kd.pair a (Kd.pair b c)) (fun x => oka x.1 ∧ okb x.2.1 ∧ okc x.2.2) := by
  intro H enc w base spare held fuel cs x hx
  obtain ⟨xs, n, _, _, hlen, hxl, hf⟩ := DataW.trod_struct ht hx
  simp only [List.size_toArray, List.length_cons, List.length_nil] at hxl
  have e0 := hf 0 f0 rfl
  have e1 := hf 1 f1 rfl
  have e2 := hf 2 f2 rfl
  rw [ho0, s0, List.drop_zero, List.getElem?_eq_getElem (by omega : 0 < xs.length)] at e0
  rw [ho1, s1, List.getElem?_eq_getElem (by omega : 1 < xs.length)] at e1
  rw [ho2, s2, List.getElem?_eq_getElem (by omega : 2 < xs.length)] at e2
  obtain ⟨p0, k0, o0⟩ := h0 H enc w base spare held n _ _ e0
  obtain ⟨p1, k1, o1⟩ := h1 H enc w base spare held n _ _ e1
  obtain ⟨p2, k2, o2⟩ := h2 H enc w base spare held n _ _ e2
  rw [hsz] at hlen
  refine ⟨(p0, p1, p2), ⟨_, cs.drop a.sz, (List.take_append_drop _ _).symm, k0, _, _, ?_, k1, k2⟩, o0, o1, o2⟩
  rw [← List.drop_drop]
  have h3 : ((cs.drop a.sz).drop b.sz).take c.sz = (cs.drop a.sz).drop b.sz := List.take_of_length_le (by simp; omega)
  rw [h3]
  exact (List.take_append_drop _ _).symm
/-- What is known of an argument of type [][]byte. -/
def RowsOk (l : List (List Int)) : Prop := l.length ≤ maxLen ∧ ∀ x ∈ l, x.length ≤ maxLen ∧ ∀ b ∈ x, (Lit.int .u8 b).wf = true
theorem fits_bytes : Fits Try.prog 25 (Kd.slice 5 (Kd.int .u8)) (fun x => x.length ≤ maxLen ∧ ∀ b ∈ x, (Lit.int .u8 b).wf = true) :=
  fits_slice Try.underlying25 (by kernel_rfl) (fits_int Try.underlying5)
theorem fits_rows : Fits Try.prog 22 (Kd.slice 25 (Kd.slice 5 (Kd.int .u8))) RowsOk :=
  fits_slice Try.underlying22 (by kernel_rfl) fits_bytes

/-- What is known of an argument that is a tape. -/
def TapeOk (a : Int) (l : List (List Int)) : Prop := (Lit.int .i64 a).wf = true ∧ RowsOk l
theorem fits_tape : Fits Try.prog 24 k24 (fun x => TapeOk x.f0 x.f1) := by
  intro H enc w base spare held fuel cs x h
  obtain ⟨y, hK, h0, h1, _⟩ := fits_iso (f := fun x : S24 => (x.f0, x.f1, x.f2)) (g := fun p => ⟨p.1, p.2.1, p.2.2⟩) (fun _ => rfl) (fits_struct3 Try.underlying24 (by kernel_rfl) rfl rfl rfl (by kernel_rfl) (by kernel_rfl) (by kernel_rfl) (fits_int Try.underlying3) fits_rows (fits_bool Try.underlying4)) H enc w base spare held fuel cs x h
  exact ⟨y, hK, h0, h1⟩
theorem tape_value {w : World} {x : S24} {cs : Array Value} (h : k24.K w x (Value.agg cs).cells.toList) : ∃ A c, cs = #[.int .i64 x.f0, .slice A x.f1.length c, .bool x.f2] ∧ x.f1.length ≤ c ∧ Kd.C (Kd.slice 5 (Kd.int .u8)) w A x.f1.length x.f1 := by
  obtain ⟨A, c, he, hl, hC⟩ := k24_open h
  refine ⟨A, c, ?_, hl, hC⟩
  have h2 : cs.toList = _ := he
  apply Array.ext'
  rw [h2]

/-! ### short names, for texts that would be too long for one file -/
theorem bN {w : World} {g : Nat} {o : Obj} (h : w.heap[g]? = some o) (n : Nat) : (w.drewN n).heap[g]? = some o := blk_drewN h n
theorem bA {w : World} {g : Nat} {o : Obj} (h : w.heap[g]? = some o) (o' : Obj) : (w.alloc o').heap[g]? = some o := blk_alloc h o'
theorem bW {w : World} {g : Nat} {o : Obj} (h : w.heap[g]? = some o) : w.drew.heap[g]? = some o := blk_drew h
theorem bS {w W : World} {g j : Nat} {v : Value} (h : Below w.heap.size w W) (hg : w.heap.size ≤ g) : Below w.heap.size w (W.setCell ⟨g, j, none⟩ v) := below_set h hg
theorem bP {B : Nat} {w W : World} (h : Below B w W) (n : Nat) : Below B w (W.drewN n) := pw_below_drewN h n
theorem bL {w W : World} (h : Below w.heap.size w W) (o : Obj) : Below w.heap.size w (W.alloc o) := below_alloc h o
theorem bD {B : Nat} {w W : World} (h : Below B w W) : Below B w W.drew := below_drew1 h
theorem bK {w w1 : World} {g : Nat} {o : Obj} (h : w.heap[g]? = some o) (hb : Below w.heap.size w w1) : w1.heap[g]? = some o := blk_below h hb
theorem zA {p : Prop} (h : p) : Aside0 p := Aside0.mk h

-- NOT PRINTED: function 28 (slices_IndexFunc_byte_byte)

-- NOT PRINTED: function 22 (slices_ContainsFunc_byte_byte)

end Go.Proofs.Ytkhepijngopmbaa.M
