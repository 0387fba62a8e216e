-- By wip/ownrow.py (a program of this session).
import Derived.Test.YtcfiobhebakhlaaSFitD
import Derived.Test.YtcfiobhebakhlaaPAllx14
import Derived.Test.YtcfiobhebakhlaaPAllx0
set_option linter.unusedVariables false
namespace Go.Proofs.Ytcfiobhebakhlaa.PAll
open Go.RowKit Go.Proofs.YtcfiobhebakhlaaW.PrintWords Go.Proofs.YtcfiobhebakhlaaW.PrintLast Go.Proofs.YtcfiobhebakhlaaW.PrintMore
/-- THE ONE PURE STATEMENT of tidelinelaw07_CutsBorders. -/
def tidelinelaw07_CutsBorders.Pure : Prop := ∀ (l0 : List ByteArray) (a1 : Int), (l0.length * 16 ≤ 140737488351232 ∧ ∀ x ∈ l0, x.size ≤ 140737488351232) → ((Lit.int .i64 a1).wf = true) → ∃ k, tidelinelaw07_CutsBorders.f k l0 a1 = some true
end Go.Proofs.Ytcfiobhebakhlaa.PAll
