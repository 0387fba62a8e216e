/- For every entry and all bytes the law ItemBytes answers true: an entry's bytes are the document's and say the entry again, and what any bytes say is what the document says; what says an entry is its bytes. It has no condition but the form's own reach. -/
import Derived.Test.YthalodnfecaccaaPAllx0
import Derived.Test.YthalodnfecaccaaPAllx1
import Derived.Test.YthalodnfecaccaaQItemBytes
import Derived.Test.YthalodnfecaccaaSBackE
set_option linter.unusedVariables false
set_option linter.unusedSimpArgs false
namespace Go.Proofs.Ythalodnfecaccaa.Pure
open Go.RowKit Go.Proofs.Ythalodnfecaccaa.PAll Go.Proofs.YthalodnfecaccaaW.PrintWords Go.Proofs.YthalodnfecaccaaW.PrintLast Go.Proofs.YthalodnfecaccaaW.PrintMore
open Go.Proofs.Ythalodnfecaccaa.Rd in
theorem ItemBytes : tidelinelaw03_ItemBytes.Pure := by
  intro a0 a1 a2 a3 a4 l1 hx hl
  have hb : ∀ x ∈ l1, 0 ≤ x ∧ x < 256 := by
    intro x hx
    have h := hl.2 x hx
    simp [Lit.wf] at h
    rw [show IntKind.u8.min = 0 by decide, show IntKind.u8.max = 255 by decide] at h
    omega
  unfold tidelinelaw03_ItemBytes.f
  obtain ⟨b, hbb⟩ : ∃ b, tidelinelaw03_long.f a0 a1 a2 a3 a4 = some b := by unfold tidelinelaw03_long.f; split <;> exact ⟨_, rfl⟩
  rw [hbb, Option.bind_some]
  cases b with
  | true => rw [if_pos rfl]
  | false =>
    rw [if_neg (by decide)]
    by_cases hg : 1073741824 < (l1.length : Int)
    · rw [if_pos hg]
    · rw [if_neg hg, if_pos ⟨hb, putA_bytes _, of_putA, putA_of hb⟩]
end Go.Proofs.Ythalodnfecaccaa.Pure
