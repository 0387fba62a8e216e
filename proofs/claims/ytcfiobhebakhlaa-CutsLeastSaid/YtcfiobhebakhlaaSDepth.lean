import Derived.Test.YtcfiobhebakhlaaPAllx5
import Derived.Test.YtcfiobhebakhlaaSEv
set_option linter.unusedVariables false
set_option linter.unusedSimpArgs false
namespace Go.Proofs.Ytcfiobhebakhlaa.Pure
open Go.RowKit Go.Proofs.Ytcfiobhebakhlaa.PAll Go.Proofs.YtcfiobhebakhlaaW.PrintWords Go.Proofs.YtcfiobhebakhlaaW.PrintLast Go.Proofs.YtcfiobhebakhlaaW.PrintMore
def depthOf (b : Int) : Int := if b = 2 then 8 else if b = 3 then 6 else if b = 4 then 4 else if b = 5 then 4 else if b = 6 then 4 else if b ≤ 15 then 3 else 2
theorem depth_all : ∀ b : Fin 15, cuts_Depth.f 20 ((b.val : Int) + 2) = some (depthOf ((b.val : Int) + 2), 0) ∧ tidelineref07_Depth.f 20 ((b.val : Int) + 2) = some (depthOf ((b.val : Int) + 2), 0) := by decide +kernel
theorem depth_ok (b : Int) (h : 2 ≤ b) (h' : b ≤ 16) (k : Nat) (hk : 20 ≤ k) : cuts_Depth.f k b = some (depthOf b, 0) ∧ tidelineref07_Depth.f k b = some (depthOf b, 0) := by
  have := depth_all ⟨(b - 2).toNat, by omega⟩
  have e : (((b - 2).toNat : Nat) : Int) + 2 = b := by omega
  simp only [e] at this
  exact ⟨at_rounds (cuts_Depth.mono b) hk this.1, at_rounds (tidelineref07_Depth.mono b) hk this.2⟩
theorem depth_bd (b : Int) : 2 ≤ depthOf b ∧ depthOf b ≤ 8 := by
  unfold depthOf; (repeat' split) <;> omega
theorem depth_bad (b : Int) (h : ¬ (2 ≤ b ∧ b ≤ 16)) (k : Nat) : cuts_Depth.f k b = some (0, 1) ∧ tidelineref07_Depth.f k b = some (0, 1) := by
  unfold cuts_Depth.f tidelineref07_Depth.f cuts_isBranch.f tidelineref07_right.f
  by_cases h2 : 2 ≤ b
  · have h3 : ¬ b ≤ 16 := fun h3 => h ⟨h2, h3⟩
    simp [h2, h3]
  · have h2' : ¬ b ≥ 2 := h2
    simp [h2, h2']
end Go.Proofs.Ytcfiobhebakhlaa.Pure
