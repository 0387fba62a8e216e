-- By wip/ownrow.py (a program of this session).
import Derived.Test.YtcfiobhebakhlaaSFitD
import Derived.Test.YtcfiobhebakhlaaPAllx6
import Derived.Test.YtcfiobhebakhlaaPAllx0
set_option linter.unusedVariables false
namespace Go.Proofs.Ytcfiobhebakhlaa.PAll
open Go.RowKit Go.Proofs.YtcfiobhebakhlaaW.PrintWords Go.Proofs.YtcfiobhebakhlaaW.PrintLast Go.Proofs.YtcfiobhebakhlaaW.PrintMore
/-- THE ONE PURE STATEMENT of tidelinelaw07_CutsDeep. -/
def tidelinelaw07_CutsDeep.Pure : Prop := ∀ (a0_0 : ByteArray) (a0_1 : ByteArray) (a0_2 : Bool) (l1 : List ByteArray) (a2 : Int), (fit36 (⟨a0_0, a0_1, a0_2⟩ : S36)) → (l1.length * 16 ≤ 140737488351232 ∧ ∀ x ∈ l1, x.size ≤ 140737488351232) → ((Lit.int .i64 a2).wf = true) → ∃ k, tidelinelaw07_CutsDeep.f k a0_0 a0_1 a0_2 l1 a2 = some true
end Go.Proofs.Ytcfiobhebakhlaa.PAll
