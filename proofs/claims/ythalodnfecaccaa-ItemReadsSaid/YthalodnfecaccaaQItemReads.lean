-- By wip/ownrow.py (a program of this session).
import Derived.Test.YthalodnfecaccaaSFitD
import Derived.Test.YthalodnfecaccaaSLawIReads
import Derived.Test.YthalodnfecaccaaPAllx0
set_option linter.unusedVariables false
namespace Go.Proofs.Ythalodnfecaccaa.PAll
open Go.RowKit Go.Proofs.YthalodnfecaccaaW.PrintWords Go.Proofs.YthalodnfecaccaaW.PrintLast Go.Proofs.YthalodnfecaccaaW.PrintMore
/-- THE ONE PURE STATEMENT of tidelinelaw03_ItemReads. -/
def tidelinelaw03_ItemReads.Pure : Prop := ∀ (l0 : List Int) (a1 : Int), (l0.length * 1 ≤ 140737488351232 ∧ ∀ x ∈ l0, (Lit.int .u8 x).wf = true) → ((Lit.int .i64 a1).wf = true) → tidelinelaw03_ItemReads.f l0 a1 = some true
end Go.Proofs.Ythalodnfecaccaa.PAll
