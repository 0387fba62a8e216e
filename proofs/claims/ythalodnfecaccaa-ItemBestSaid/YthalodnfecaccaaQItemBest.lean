-- By wip/ownrow.py (a program of this session).
import Derived.Test.YthalodnfecaccaaSFitD
import Derived.Test.YthalodnfecaccaaPAllx4
import Derived.Test.YthalodnfecaccaaPAllx0
set_option linter.unusedVariables false
namespace Go.Proofs.Ythalodnfecaccaa.PAll
open Go.RowKit Go.Proofs.YthalodnfecaccaaW.PrintWords Go.Proofs.YthalodnfecaccaaW.PrintLast Go.Proofs.YthalodnfecaccaaW.PrintMore
/-- THE ONE PURE STATEMENT of tidelinelaw03_ItemBest. -/
def tidelinelaw03_ItemBest.Pure : Prop := ∀ (a0_0 : ByteArray) (a0_1 : Int) (a0_2 : Int) (a0_3 : ByteArray) (a0_4 : Bool) (a1_0 : ByteArray) (a1_1 : Int) (a1_2 : Int) (a1_3 : ByteArray) (a1_4 : Bool) (a2_0 : ByteArray) (a2_1 : Int) (a2_2 : Int) (a2_3 : ByteArray) (a2_4 : Bool), (fit25 (⟨a0_0, (⟨a0_1, a0_2⟩ : S23), a0_3, a0_4⟩ : S25)) → (fit25 (⟨a1_0, (⟨a1_1, a1_2⟩ : S23), a1_3, a1_4⟩ : S25)) → (fit25 (⟨a2_0, (⟨a2_1, a2_2⟩ : S23), a2_3, a2_4⟩ : S25)) → ∃ k, tidelinelaw03_ItemBest.f k a0_0 a0_1 a0_2 a0_3 a0_4 a1_0 a1_1 a1_2 a1_3 a1_4 a2_0 a2_1 a2_2 a2_3 a2_4 = some true
end Go.Proofs.Ythalodnfecaccaa.PAll
