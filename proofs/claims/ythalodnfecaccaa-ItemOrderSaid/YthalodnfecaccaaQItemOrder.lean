-- By wip/ownrow.py (a program of this session).
import Derived.Test.YthalodnfecaccaaSFitD
import Derived.Test.YthalodnfecaccaaPAllx5
import Derived.Test.YthalodnfecaccaaPAllx0
set_option linter.unusedVariables false
namespace Go.Proofs.Ythalodnfecaccaa.PAll
open Go.RowKit Go.Proofs.YthalodnfecaccaaW.PrintWords Go.Proofs.YthalodnfecaccaaW.PrintLast Go.Proofs.YthalodnfecaccaaW.PrintMore
/-- THE ONE PURE STATEMENT of tidelinelaw03_ItemOrder. -/
def tidelinelaw03_ItemOrder.Pure : Prop := ∀ (a0_0 : Int) (a0_1 : Int) (a1_0 : Int) (a1_1 : Int) (a2_0 : Int) (a2_1 : Int), (fit23 (⟨a0_0, a0_1⟩ : S23)) → (fit23 (⟨a1_0, a1_1⟩ : S23)) → (fit23 (⟨a2_0, a2_1⟩ : S23)) → ∃ k, tidelinelaw03_ItemOrder.f k a0_0 a0_1 a1_0 a1_1 a2_0 a2_1 = some true
end Go.Proofs.Ythalodnfecaccaa.PAll
