-- By wip/ownrow.py (a program of this session).
import Derived.Test.YtgdhgamolenfgaaSFitD
import Derived.Test.YtgdhgamolenfgaaPAllx14
import Derived.Test.YtgdhgamolenfgaaPAllx0
set_option linter.unusedVariables false
namespace Go.Proofs.Ytgdhgamolenfgaa.PAll
open Go.RowKit Go.Proofs.YtgdhgamolenfgaaW.PrintWords Go.Proofs.YtgdhgamolenfgaaW.PrintLast Go.Proofs.YtgdhgamolenfgaaW.PrintMore
/-- THE ONE PURE STATEMENT of tidelinelaw02_SpanChecks. -/
def tidelinelaw02_SpanChecks.Pure : Prop := ∀ (a0_0 : ByteArray) (a0_1 : ByteArray) (a0_2 : Bool) (a1 : ByteArray), (fit23 (⟨a0_0, a0_1, a0_2⟩ : S23)) → (a1.size ≤ 140737488351232) → ∃ k, tidelinelaw02_SpanChecks.f k a0_0 a0_1 a0_2 a1 = some true
end Go.Proofs.Ytgdhgamolenfgaa.PAll
