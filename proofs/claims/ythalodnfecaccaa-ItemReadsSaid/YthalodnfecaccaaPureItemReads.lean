/- For all bytes and every count the law ItemReads answers true: entries are read one behind the other by one reader as the document says, the reader too, broken or not. It has no condition but the form's own reach. -/
import Derived.Test.YthalodnfecaccaaPAllx0
import Derived.Test.YthalodnfecaccaaQItemReads
set_option linter.unusedVariables false
set_option linter.unusedSimpArgs false
namespace Go.Proofs.Ythalodnfecaccaa.Pure
open Go.RowKit Go.Proofs.Ythalodnfecaccaa.PAll Go.Proofs.YthalodnfecaccaaW.PrintWords Go.Proofs.YthalodnfecaccaaW.PrintLast Go.Proofs.YthalodnfecaccaaW.PrintMore
theorem ItemReads : tidelinelaw03_ItemReads.Pure := by
  intro l0 a1 hl0
  intros
  unfold tidelinelaw03_ItemReads.f
  by_cases hg : 1073741824 < (l0.length : Int)
  · rw [if_pos hg]
  · rw [if_neg hg, if_pos ?_]
    intro x hx
    have h := hl0.2 x hx
    simp [Lit.wf] at h
    rw [show IntKind.u8.min = 0 by decide, show IntKind.u8.max = 255 by decide] at h
    omega
end Go.Proofs.Ythalodnfecaccaa.Pure
