-- By wip/ownrow.py (a program of this session).
import Derived.Test.YtghlellambnkeaaSFitD
import Derived.Test.YtghlellambnkeaaSLawIn
import Derived.Test.YtghlellambnkeaaPAllx0
set_option linter.unusedVariables false
namespace Go.Proofs.Ytghlellambnkeaa.PAll
open Go.RowKit Go.Proofs.YtghlellambnkeaaW.PrintWords Go.Proofs.YtghlellambnkeaaW.PrintLast Go.Proofs.YtghlellambnkeaaW.PrintMore
/-- THE ONE PURE STATEMENT of tidelinelaw09_MergeIn. -/
def tidelinelaw09_MergeIn.Pure : Prop := ∀ (l0 : List (S44)) (a1_0 : ByteArray) (a1_1 : ByteArray) (a1_2 : Bool), (l0.length * 56 ≤ 140737488351232 ∧ ∀ x ∈ l0, fit44 x) → (fit30 (⟨a1_0, a1_1, a1_2⟩ : S30)) → ∃ k, tidelinelaw09_MergeIn.f k l0 a1_0 a1_1 a1_2 = some true
end Go.Proofs.Ytghlellambnkeaa.PAll
