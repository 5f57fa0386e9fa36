/- Part of a claim: what some functions of the program compute, each with its contract; no condition of its own. Written by a program of this workplace (gen.py, over the print of the kit) and by hand. -/
import Derived.Test.YtckoafndhccomaaM0
import Derived.Test.YtckoafndhccomaaM3
import Derived.Test.YtckoafndhccomaaM8
import Derived.Test.YtckoafndhccomaaM9
import Derived.Test.YtckoafndhccomaaM11
import Derived.Test.YtckoafndhccomaaM13
import Derived.Test.YtckoafndhccomaaM14
import Derived.Test.YtckoafndhccomaaM15
namespace Go.Proofs.Ytckoafndhccomaa.M
open Go.RowKit Go.Proofs.YtckoafndhccomaaW.PrintWords Go.Proofs.YtckoafndhccomaaW.PrintLast Go.Proofs.YtckoafndhccomaaW.PrintMore
attribute [local go_sem] max2_int min2_int max_two min_two max_three min_three max_four min_four   -- for this text's walks alone
set_option linter.unusedVariables false
set_option linter.unusedSimpArgs false

theorem record_Group.tells (l : List (List Int)) (b : Nat) (hb : 1 ≤ b) (hb2 : b ≤ 20) (hl : l.length ≤ 4000) (h : ∀ x ∈ l, x.length = 512) : record_Group.f l (b : Int) = some (groupOf l b (partsOf l.length b), true) := by
  unfold record_Group.f
  rw [if_pos ⟨by omega, by omega, hl, by rw [List.all_eq_true]; exact fun x hx => by simpa using h x hx⟩, Int.toNat_natCast]
theorem record_Blocks.tells (l : List (List Int)) (hl : l.length ≤ 100000) (h : l.all recMay = true) : record_Blocks.f l = some (blocksOf l, true) := by
  unfold record_Blocks.f
  rw [if_pos hl, if_pos h]
theorem zero_512 (n : Nat) : ∀ x ∈ List.replicate n (List.replicate 512 (0 : Int)), x.length = 512 := by
  intro x hx
  rw [(List.mem_replicate.1 hx).2, List.length_replicate]
theorem reelkeeperlaw11_awake.tells : Ev reelkeeperlaw11_awake.f true := by
  obtain ⟨K2, h2⟩ := block_Zeros.ev 5
  refine ⟨K2, fun k hk => ?_⟩
  have g2 : block_Zeros.f k 5 = some (zerosOf 5) := h2 k hk
  obtain ⟨Z, hZ⟩ : ∃ Z, zerosOf 5 = Z := ⟨_, rfl⟩
  have eZ : Z = List.replicate 5 (List.replicate 512 0) := hZ.symm
  have h5 : ∀ x ∈ Z, x.length = 512 := by rw [eZ]; exact zero_512 5
  have hlen : Z.length = 5 := by rw [eZ]; exact List.length_replicate
  clear eZ
  have hG := record_Group.tells Z 2 (by omega) (by omega) (by omega) h5
  have hmay := groupOf_may Z 2 (by omega) (by omega) h5
  have hfl := groupOf_flat Z 2 (by omega) h5
  have hpl := padded_length Z 2 (by omega)
  have hrl := rec_length Z 2 0 (by omega) h5 (by rw [hlen]; decide)
  rw [hlen, show partsOf 5 2 = 3 from rfl] at hG hmay hfl hpl
  have hgl := groupOf_length Z 2 3
  have hB := record_Blocks.tells (groupOf Z 2 3) (by rw [hgl]; omega) hmay
  rw [hfl] at hB
  have hr0 : rd_L1 (groupOf Z 2 3) 0 = recOf Z 2 0 := by
    rw [rd_L1_at _ _ (by rw [hgl]; decide)]
    simp [groupOf]
  unfold reelkeeperlaw11_awake.f
  rw [g2, Option.bind_some, hZ, show (2 : Int) = ((2 : Nat) : Int) from rfl, hG, Option.bind_some, hB, Option.bind_some]
  simp only [hgl, hr0, hrl, hpl]
  rw [record_Many.tells 5 ((2 : Nat) : Int) (by omega) (by omega), recMay_f _ (by rw [hrl]; omega), recMay_of _ 2 (by omega) (by omega) hrl]
  rfl

end Go.Proofs.Ytckoafndhccomaa.M
