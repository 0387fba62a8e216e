import Derived.Test.YtgdhgamolenfgaaPAllx0
import Derived.Test.YtgdhgamolenfgaaPAllx5
import Derived.Test.YtgdhgamolenfgaaSEv
import Derived.Test.YtgdhgamolenfgaaSLists
set_option linter.unusedVariables false
set_option linter.unusedSimpArgs false
namespace Go.Proofs.Ytgdhgamolenfgaa.Pure
open Go.RowKit Go.Proofs.Ytgdhgamolenfgaa.PAll Go.Proofs.YtgdhgamolenfgaaW.PrintWords Go.Proofs.YtgdhgamolenfgaaW.PrintLast Go.Proofs.YtgdhgamolenfgaaW.PrintMore
theorem shown_at : tidelinelaw02_shown.f 40 = some true := by decide +kernel
theorem shown_f : Ev (fun k => tidelinelaw02_shown.f k) true := by
  have g : ∀ d, tidelinelaw02_shown.f (40 + d) = some true := by
    intro d
    induction d with
    | zero => exact shown_at
    | succ d ih => exact tidelinelaw02_shown.mono (40 + d) _ ih
  exact ⟨40, fun k hk => by rw [show k = 40 + (k - 40) by omega]; exact g _⟩
end Go.Proofs.Ytgdhgamolenfgaa.Pure
