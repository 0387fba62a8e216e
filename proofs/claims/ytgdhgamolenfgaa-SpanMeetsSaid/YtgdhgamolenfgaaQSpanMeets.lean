-- By wip/ownrow.py (a program of this session).
import Derived.Test.YtgdhgamolenfgaaSFitD
import Derived.Test.YtgdhgamolenfgaaPAllx6
import Derived.Test.YtgdhgamolenfgaaPAllx0
set_option linter.unusedVariables false
namespace Go.Proofs.Ytgdhgamolenfgaa.PAll
open Go.RowKit Go.Proofs.YtgdhgamolenfgaaW.PrintWords Go.Proofs.YtgdhgamolenfgaaW.PrintLast Go.Proofs.YtgdhgamolenfgaaW.PrintMore
/-- THE ONE PURE STATEMENT of tidelinelaw02_SpanMeets. -/
def tidelinelaw02_SpanMeets.Pure : Prop := ∀ (a0_0 : ByteArray) (a0_1 : ByteArray) (a0_2 : Bool) (a1_0 : ByteArray) (a1_1 : ByteArray) (a1_2 : Bool) (a2_0 : ByteArray) (a2_1 : ByteArray) (a2_2 : Bool), (fit23 (⟨a0_0, a0_1, a0_2⟩ : S23)) → (fit23 (⟨a1_0, a1_1, a1_2⟩ : S23)) → (fit23 (⟨a2_0, a2_1, a2_2⟩ : S23)) → ∃ k, tidelinelaw02_SpanMeets.f k a0_0 a0_1 a0_2 a1_0 a1_1 a1_2 a2_0 a2_1 a2_2 = some true
end Go.Proofs.Ytgdhgamolenfgaa.PAll
