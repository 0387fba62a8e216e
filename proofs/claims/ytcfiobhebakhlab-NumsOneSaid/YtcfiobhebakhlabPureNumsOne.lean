/- For all bytes the law NumsOne answers true: a number that was read from them is laid down as just these. It has no condition but the form's own reach. -/
import Derived.Test.YtcfiobhebakhlabPAllx0
import Derived.Test.YtcfiobhebakhlabQNumsOne
set_option linter.unusedVariables false
set_option linter.unusedSimpArgs false
namespace Go.Proofs.Ytcfiobhebakhlab.Pure
open Go.RowKit Go.Proofs.Ytcfiobhebakhlab.PAll Go.Proofs.YtcfiobhebakhlabW.PrintWords Go.Proofs.YtcfiobhebakhlabW.PrintLast Go.Proofs.YtcfiobhebakhlabW.PrintMore
theorem NumsOne : tidelinelaw01_NumsOne.Pure := by
  intro l0 hl0
  unfold tidelinelaw01_NumsOne.f
  by_cases hg : 2147483647 < (l0.length : Int)
  · rw [if_pos hg]
  · rw [if_neg hg, if_pos ?_]
    intro x hx
    have h := hl0.2 x hx
    simp [Lit.wf] at h
    rw [show IntKind.u8.min = 0 by decide, show IntKind.u8.max = 255 by decide] at h
    omega
end Go.Proofs.Ytcfiobhebakhlab.Pure
