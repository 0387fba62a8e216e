-- By wip/ownrow.py (a program of this session).
import Derived.Test.YtgdhgamolenfgaaSFitD
import Derived.Test.YtgdhgamolenfgaaPAllx9
import Derived.Test.YtgdhgamolenfgaaPAllx0
set_option linter.unusedVariables false
namespace Go.Proofs.Ytgdhgamolenfgaa.PAll
open Go.RowKit Go.Proofs.YtgdhgamolenfgaaW.PrintWords Go.Proofs.YtgdhgamolenfgaaW.PrintLast Go.Proofs.YtgdhgamolenfgaaW.PrintMore
/-- THE ONE PURE STATEMENT of tidelinelaw02_SpanTiles. -/
def tidelinelaw02_SpanTiles.Pure : Prop := ∀ (l0 : List (S23)) (a1_0 : ByteArray) (a1_1 : ByteArray) (a1_2 : Bool), (l0.length * 40 ≤ 140737488351232 ∧ ∀ x ∈ l0, fit23 x) → (fit23 (⟨a1_0, a1_1, a1_2⟩ : S23)) → ∃ k, tidelinelaw02_SpanTiles.f k l0 a1_0 a1_1 a1_2 = some true
end Go.Proofs.Ytgdhgamolenfgaa.PAll
