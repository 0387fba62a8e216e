-- By wip/ownrow.py (a program of this session).
import Derived.Test.YtghlellambnkeaaSFitD
import Derived.Test.YtghlellambnkeaaPAllx7
import Derived.Test.YtghlellambnkeaaPAllx0
set_option linter.unusedVariables false
namespace Go.Proofs.Ytghlellambnkeaa.PAll
open Go.RowKit Go.Proofs.YtghlellambnkeaaW.PrintWords Go.Proofs.YtghlellambnkeaaW.PrintLast Go.Proofs.YtghlellambnkeaaW.PrintMore
/-- THE ONE PURE STATEMENT of tidelinelaw09_MergeRanges. -/
def tidelinelaw09_MergeRanges.Pure : Prop := ∀ (l0 : List (S44)) (l1 : List (S44)) (a2_0 : ByteArray) (a2_1 : ByteArray) (a2_2 : Bool), (l0.length * 56 ≤ 140737488351232 ∧ ∀ x ∈ l0, fit44 x) → (l1.length * 56 ≤ 140737488351232 ∧ ∀ x ∈ l1, fit44 x) → (fit30 (⟨a2_0, a2_1, a2_2⟩ : S30)) → ∃ k, tidelinelaw09_MergeRanges.f k l0 l1 a2_0 a2_1 a2_2 = some true
end Go.Proofs.Ytghlellambnkeaa.PAll
