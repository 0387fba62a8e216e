-- By wip/ownrow.py (a program of this session).
import Derived.Test.YtghlellambnkeaaSFitD
import Derived.Test.YtghlellambnkeaaPAllx7
import Derived.Test.YtghlellambnkeaaPAllx0
set_option linter.unusedVariables false
namespace Go.Proofs.Ytghlellambnkeaa.PAll
open Go.RowKit Go.Proofs.YtghlellambnkeaaW.PrintWords Go.Proofs.YtghlellambnkeaaW.PrintLast Go.Proofs.YtghlellambnkeaaW.PrintMore
/-- THE ONE PURE STATEMENT of tidelinelaw09_MergeSteps. -/
def tidelinelaw09_MergeSteps.Pure : Prop := ∀ (l0 : List (S44)) (l1 : List (S44)) (l2 : List Int), (l0.length * 56 ≤ 140737488351232 ∧ ∀ x ∈ l0, fit44 x) → (l1.length * 56 ≤ 140737488351232 ∧ ∀ x ∈ l1, fit44 x) → (l2.length * 8 ≤ 140737488351232 ∧ ∀ x ∈ l2, (Lit.int .i64 x).wf = true) → ∃ k, tidelinelaw09_MergeSteps.f k l0 l1 l2 = some true
end Go.Proofs.Ytghlellambnkeaa.PAll
