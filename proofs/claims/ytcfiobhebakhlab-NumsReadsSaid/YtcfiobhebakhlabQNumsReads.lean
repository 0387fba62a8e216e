-- By wip/ownrow.py (a program of this session).
import Derived.Test.YtcfiobhebakhlabSFitD
import Derived.Test.YtcfiobhebakhlabSLawReads
import Derived.Test.YtcfiobhebakhlabPAllx0
set_option linter.unusedVariables false
namespace Go.Proofs.Ytcfiobhebakhlab.PAll
open Go.RowKit Go.Proofs.YtcfiobhebakhlabW.PrintWords Go.Proofs.YtcfiobhebakhlabW.PrintLast Go.Proofs.YtcfiobhebakhlabW.PrintMore
/-- THE ONE PURE STATEMENT of tidelinelaw01_NumsReads. -/
def tidelinelaw01_NumsReads.Pure : Prop := ∀ (l0 : List Int) (l1 : List (S34)), (l0.length * 1 ≤ 140737488351232 ∧ ∀ x ∈ l0, (Lit.int .u8 x).wf = true) → (l1.length * 48 ≤ 140737488351232 ∧ ∀ x ∈ l1, fit34 x) → ∃ k, tidelinelaw01_NumsReads.f k l0 l1 = some true
end Go.Proofs.Ytcfiobhebakhlab.PAll
