-- By wip/ownrow.py (a program of this session).
import Derived.Test.YthalodnfecaccaaSFitD
import Derived.Test.YthalodnfecaccaaSLawIBytes
import Derived.Test.YthalodnfecaccaaPAllx0
set_option linter.unusedVariables false
namespace Go.Proofs.Ythalodnfecaccaa.PAll
open Go.RowKit Go.Proofs.YthalodnfecaccaaW.PrintWords Go.Proofs.YthalodnfecaccaaW.PrintLast Go.Proofs.YthalodnfecaccaaW.PrintMore
/-- THE ONE PURE STATEMENT of tidelinelaw03_ItemBytes. -/
def tidelinelaw03_ItemBytes.Pure : Prop := ∀ (a0_0 : ByteArray) (a0_1 : Int) (a0_2 : Int) (a0_3 : ByteArray) (a0_4 : Bool) (l1 : List Int), (fit25 (⟨a0_0, (⟨a0_1, a0_2⟩ : S23), a0_3, a0_4⟩ : S25)) → (l1.length * 1 ≤ 140737488351232 ∧ ∀ x ∈ l1, (Lit.int .u8 x).wf = true) → tidelinelaw03_ItemBytes.f a0_0 a0_1 a0_2 a0_3 a0_4 l1 = some true
end Go.Proofs.Ythalodnfecaccaa.PAll
