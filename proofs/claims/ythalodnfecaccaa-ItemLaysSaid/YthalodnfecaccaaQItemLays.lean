-- By wip/ownrow.py (a program of this session).
import Derived.Test.YthalodnfecaccaaSFitD
import Derived.Test.YthalodnfecaccaaSLawLays
import Derived.Test.YthalodnfecaccaaPAllx0
set_option linter.unusedVariables false
namespace Go.Proofs.Ythalodnfecaccaa.PAll
open Go.RowKit Go.Proofs.YthalodnfecaccaaW.PrintWords Go.Proofs.YthalodnfecaccaaW.PrintLast Go.Proofs.YthalodnfecaccaaW.PrintMore
/-- THE ONE PURE STATEMENT of tidelinelaw03_ItemLays. -/
def tidelinelaw03_ItemLays.Pure : Prop := ∀ (l0 : List (S25)) (a1 : Int), (l0.length * 56 ≤ 140737488351232 ∧ ∀ x ∈ l0, fit25 x) → ((Lit.int .i64 a1).wf = true) → tidelinelaw03_ItemLays.f l0 a1 = some true
end Go.Proofs.Ythalodnfecaccaa.PAll
