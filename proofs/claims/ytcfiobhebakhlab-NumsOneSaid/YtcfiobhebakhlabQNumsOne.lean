-- By wip/ownrow.py (a program of this session).
import Derived.Test.YtcfiobhebakhlabSFitD
import Derived.Test.YtcfiobhebakhlabSLawOne
import Derived.Test.YtcfiobhebakhlabPAllx0
set_option linter.unusedVariables false
namespace Go.Proofs.Ytcfiobhebakhlab.PAll
open Go.RowKit Go.Proofs.YtcfiobhebakhlabW.PrintWords Go.Proofs.YtcfiobhebakhlabW.PrintLast Go.Proofs.YtcfiobhebakhlabW.PrintMore
/-- THE ONE PURE STATEMENT of tidelinelaw01_NumsOne. -/
def tidelinelaw01_NumsOne.Pure : Prop := ∀ (l0 : List Int), (l0.length * 1 ≤ 140737488351232 ∧ ∀ x ∈ l0, (Lit.int .u8 x).wf = true) → tidelinelaw01_NumsOne.f l0 = some true
end Go.Proofs.Ytcfiobhebakhlab.PAll
