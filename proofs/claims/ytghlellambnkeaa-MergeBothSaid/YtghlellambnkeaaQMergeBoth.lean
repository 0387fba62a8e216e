-- By wip/ownrow.py (a program of this session).
import Derived.Test.YtghlellambnkeaaSFitD
import Derived.Test.YtghlellambnkeaaSLawBoth
import Derived.Test.YtghlellambnkeaaPAllx0
set_option linter.unusedVariables false
namespace Go.Proofs.Ytghlellambnkeaa.PAll
open Go.RowKit Go.Proofs.YtghlellambnkeaaW.PrintWords Go.Proofs.YtghlellambnkeaaW.PrintLast Go.Proofs.YtghlellambnkeaaW.PrintMore
/-- THE ONE PURE STATEMENT of tidelinelaw09_MergeBoth. -/
def tidelinelaw09_MergeBoth.Pure : Prop := ∀ (l0 : List (S44)) (l1 : List (S44)) (a2 : Int), (l0.length * 56 ≤ 140737488351232 ∧ ∀ x ∈ l0, fit44 x) → (l1.length * 56 ≤ 140737488351232 ∧ ∀ x ∈ l1, fit44 x) → ((Lit.int .i64 a2).wf = true) → ∃ k, tidelinelaw09_MergeBoth.f k l0 l1 a2 = some true
end Go.Proofs.Ytghlellambnkeaa.PAll
