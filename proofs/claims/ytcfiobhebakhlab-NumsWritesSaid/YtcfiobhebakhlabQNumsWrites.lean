-- By wip/ownrow.py (a program of this session).
import Derived.Test.YtcfiobhebakhlabSFitD
import Derived.Test.YtcfiobhebakhlabSLawWrites
import Derived.Test.YtcfiobhebakhlabPAllx0
set_option linter.unusedVariables false
namespace Go.Proofs.Ytcfiobhebakhlab.PAll
open Go.RowKit Go.Proofs.YtcfiobhebakhlabW.PrintWords Go.Proofs.YtcfiobhebakhlabW.PrintLast Go.Proofs.YtcfiobhebakhlabW.PrintMore
/-- THE ONE PURE STATEMENT of tidelinelaw01_NumsWrites. -/
def tidelinelaw01_NumsWrites.Pure : Prop := ∀ (l0 : List (S34)), (l0.length * 48 ≤ 140737488351232 ∧ ∀ x ∈ l0, fit34 x) → ∃ k, tidelinelaw01_NumsWrites.f k l0 = some true
end Go.Proofs.Ytcfiobhebakhlab.PAll
