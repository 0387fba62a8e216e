-- By wip/ownrow.py (a program of this session).
import Derived.Test.YtgdhgamolenfgaaSFitD
import Derived.Test.YtgdhgamolenfgaaPAllx6
import Derived.Test.YtgdhgamolenfgaaPAllx0
set_option linter.unusedVariables false
namespace Go.Proofs.Ytgdhgamolenfgaa.PAll
open Go.RowKit Go.Proofs.YtgdhgamolenfgaaW.PrintWords Go.Proofs.YtgdhgamolenfgaaW.PrintLast Go.Proofs.YtgdhgamolenfgaaW.PrintMore
/-- THE ONE PURE STATEMENT of tidelinelaw02_SpanTexts. -/
def tidelinelaw02_SpanTexts.Pure : Prop := ∀ (a0_0 : ByteArray) (a0_1 : ByteArray) (a0_2 : Bool), (fit23 (⟨a0_0, a0_1, a0_2⟩ : S23)) → ∃ k, tidelinelaw02_SpanTexts.f k a0_0 a0_1 a0_2 = some true
end Go.Proofs.Ytgdhgamolenfgaa.PAll
