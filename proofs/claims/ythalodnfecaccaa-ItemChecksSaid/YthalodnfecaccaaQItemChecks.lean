-- By wip/ownrow.py (a program of this session).
import Derived.Test.YthalodnfecaccaaSFitD
import Derived.Test.YthalodnfecaccaaPAllx3
import Derived.Test.YthalodnfecaccaaPAllx0
set_option linter.unusedVariables false
namespace Go.Proofs.Ythalodnfecaccaa.PAll
open Go.RowKit Go.Proofs.YthalodnfecaccaaW.PrintWords Go.Proofs.YthalodnfecaccaaW.PrintLast Go.Proofs.YthalodnfecaccaaW.PrintMore
/-- THE ONE PURE STATEMENT of tidelinelaw03_ItemChecks. -/
def tidelinelaw03_ItemChecks.Pure : Prop := ∀ (a0_0 : ByteArray) (a0_1 : Int) (a0_2 : Int) (a0_3 : ByteArray) (a0_4 : Bool), (fit25 (⟨a0_0, (⟨a0_1, a0_2⟩ : S23), a0_3, a0_4⟩ : S25)) → tidelinelaw03_ItemChecks.f a0_0 a0_1 a0_2 a0_3 a0_4 = some true
end Go.Proofs.Ythalodnfecaccaa.PAll
