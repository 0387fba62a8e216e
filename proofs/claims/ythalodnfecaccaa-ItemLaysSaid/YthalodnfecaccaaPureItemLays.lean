/- For every list of entries and every number between them the law ItemLays answers true: what both writers lay down is one and the same row of bytes. It has no condition but the form's own reach. -/
import Derived.Test.YthalodnfecaccaaPAllx0
import Derived.Test.YthalodnfecaccaaQItemLays
set_option linter.unusedVariables false
set_option linter.unusedSimpArgs false
namespace Go.Proofs.Ythalodnfecaccaa.Pure
open Go.RowKit Go.Proofs.Ythalodnfecaccaa.PAll Go.Proofs.YthalodnfecaccaaW.PrintWords Go.Proofs.YthalodnfecaccaaW.PrintLast Go.Proofs.YthalodnfecaccaaW.PrintMore
theorem ItemLays : tidelinelaw03_ItemLays.Pure := by
  intro l0 a1 hl ha
  have h : -9223372036854775808 ≤ a1 ∧ a1 ≤ 9223372036854775807 := by
    simp [Lit.wf] at ha; have h0 : IntKind.i64.min = -9223372036854775808 := by decide
    exact ⟨by have := ha.1; rw [h0] at this; exact this, ha.2⟩
  unfold tidelinelaw03_ItemLays.f
  rw [if_pos h]
end Go.Proofs.Ythalodnfecaccaa.Pure
