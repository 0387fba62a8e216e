/- For every three versions the law ItemOrder answers true: Compare is the document's, the other way round it is the other one, and it goes through. It has no condition. -/
import Derived.Test.YthalodnfecaccaaPAllx5
import Derived.Test.YthalodnfecaccaaQItemOrder
import Derived.Test.YthalodnfecaccaaSEv
import Derived.Test.YthalodnfecaccaaSItem1
set_option linter.unusedVariables false
set_option linter.unusedSimpArgs false
namespace Go.Proofs.Ythalodnfecaccaa.Pure
open Go.RowKit Go.Proofs.Ythalodnfecaccaa.PAll Go.Proofs.YthalodnfecaccaaW.PrintWords Go.Proofs.YthalodnfecaccaaW.PrintLast Go.Proofs.YthalodnfecaccaaW.PrintMore
theorem ItemOrder : tidelinelaw03_ItemOrder.Pure := by
  intro a0 a1 b0 b1 c0 c1 _ _ _
  refine Ev.rounds ?_
  refine Ev.congr (fun k => by rw [tidelinelaw03_ItemOrder.f]) ?_
  refine Ev.bind (cmpv_f _ _ _ _) (Ev.bind (cmpv_f _ _ _ _) (Ev.bind (cmpv_f _ _ _ _) ?_))
  simp only [cmpv_ref, Option.bind_some, if_true]
  refine Ev.bind (cmpv_f _ _ _ _) ?_
  have hba : cmpv b0 b1 a0 a1 = wrap64 (-cmpv a0 a1 b0 b1) := by
    rcases cmpv_cases a0 a1 b0 b1 with ⟨e, h⟩ | ⟨e, h⟩ | ⟨e, h⟩ <;> rcases cmpv_cases b0 b1 a0 a1 with ⟨e', h'⟩ | ⟨e', h'⟩ | ⟨e', h'⟩ <;> rw [e, e'] <;> first | (exfalso; omega) | (unfold wrap64; omega)
  simp only [if_pos hba]
  refine Ev.bind (cmpv_f _ _ _ _) ?_
  have haa : cmpv a0 a1 a0 a1 = 0 := by rcases cmpv_cases a0 a1 a0 a1 with ⟨e, h⟩ | ⟨e, h⟩ | ⟨e, h⟩ <;> omega
  simp only [if_pos haa]
  have heq : ((cmpv a0 a1 b0 b1 == 0) != (a0 == b0 && (a1 == b1))) = false := by
    rcases cmpv_cases a0 a1 b0 b1 with ⟨e, h⟩ | ⟨e, h⟩ | ⟨e, h⟩
    · rw [e]; simp; omega
    · rw [e]; simp; omega
    · rw [e]; simp [h.1, h.2]
  simp only [heq, if_neg (show ¬ (false = true) by decide)]
  refine Ev.const ?_
  rcases cmpv_cases a0 a1 b0 b1 with ⟨e1, h1⟩ | ⟨e1, h1⟩ | ⟨e1, h1⟩ <;> rcases cmpv_cases b0 b1 c0 c1 with ⟨e2, h2⟩ | ⟨e2, h2⟩ | ⟨e2, h2⟩ <;> rcases cmpv_cases a0 a1 c0 c1 with ⟨e3, h3⟩ | ⟨e3, h3⟩ | ⟨e3, h3⟩ <;> rw [e1, e2, e3] <;> first | (exfalso; omega) | rfl | decide
end Go.Proofs.Ythalodnfecaccaa.Pure
