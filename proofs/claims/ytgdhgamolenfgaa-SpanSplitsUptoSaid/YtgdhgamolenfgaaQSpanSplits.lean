-- By wip/ownrow.py (a program of this session).
import Derived.Test.YtgdhgamolenfgaaSFitD
import Derived.Test.YtgdhgamolenfgaaSLawSplits
import Derived.Test.YtgdhgamolenfgaaPAllx0
set_option linter.unusedVariables false
namespace Go.Proofs.Ytgdhgamolenfgaa.PAll
open Go.RowKit Go.Proofs.YtgdhgamolenfgaaW.PrintWords Go.Proofs.YtgdhgamolenfgaaW.PrintLast Go.Proofs.YtgdhgamolenfgaaW.PrintMore
/-- THE ONE PURE STATEMENT of tidelinelaw02_SpanSplits. -/
def tidelinelaw02_SpanSplits.Pure : Prop := ∀ (a0_0 : ByteArray) (a0_1 : ByteArray) (a0_2 : Bool) (l1 : List ByteArray), (fit23 (⟨a0_0, a0_1, a0_2⟩ : S23)) → (l1.length * 16 ≤ 140737488351232 ∧ ∀ x ∈ l1, x.size ≤ 140737488351232) → ∃ k, tidelinelaw02_SpanSplits.f k a0_0 a0_1 a0_2 l1 = some true
end Go.Proofs.Ytgdhgamolenfgaa.PAll
