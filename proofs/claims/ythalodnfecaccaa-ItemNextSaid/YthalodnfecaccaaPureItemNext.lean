/- For every clock, node and version the law ItemNext answers true: the next version is the document's, and newer than each one whose Counter the clock has met. It has no condition. -/
import Derived.Test.YthalodnfecaccaaPAllx8
import Derived.Test.YthalodnfecaccaaQItemNext
import Derived.Test.YthalodnfecaccaaSEv
import Derived.Test.YthalodnfecaccaaSItem1
set_option linter.unusedVariables false
set_option linter.unusedSimpArgs false
namespace Go.Proofs.Ythalodnfecaccaa.Pure
open Go.RowKit Go.Proofs.Ythalodnfecaccaa.PAll Go.Proofs.YthalodnfecaccaaW.PrintWords Go.Proofs.YthalodnfecaccaaW.PrintLast Go.Proofs.YthalodnfecaccaaW.PrintMore
theorem nextv_cases (c n : Int) : (nextv c n = (0, 0, 30)) ∨ (nextv c n = (0, 0, 33)) ∨ (nextv c n = (c + 1, n, 0) ∧ 0 ≤ n ∧ n < 8 ∧ 0 ≤ c ∧ c < 1099511627776) := by
  unfold nextv
  by_cases h : n < 0 ∨ n ≥ 8 ∨ c < 0 ∨ c > 1099511627776
  · rw [if_pos h]; exact .inl rfl
  · rw [if_neg h]
    by_cases h2 : c = 1099511627776
    · rw [if_pos h2]; exact .inr (.inl rfl)
    · rw [if_neg h2]; exact .inr (.inr ⟨rfl, by omega, by omega, by omega, by omega⟩)
theorem ItemNext : tidelinelaw03_ItemNext.Pure := by
  intro c n v0 v1 _ _ _
  refine Ev.rounds ?_
  refine Ev.congr (fun k => by rw [tidelinelaw03_ItemNext.f]) ?_
  refine Ev.bind (next_f c n) (Ev.bind (next_ref c n) ?_)
  simp only [beq_self_eq_true, Bool.not_true, Bool.or_false, if_neg (show ¬ (false = true) by decide), if_true, chkv_f, chkv_ref, Option.bind_some, bne_self_eq_false]
  refine Ev.step (fun k => by rw [tidelinelaw03_ItemNext.j0]) ?_
  simp only [if_neg (show ¬ (false = true) by decide), chkv_f, Option.bind_some]
  rcases nextv_cases c n with e | e | ⟨e, h0, h1, h2, h3⟩
  · rw [e]; exact Ev.const rfl
  · rw [e]; exact Ev.const rfl
  · rw [e]
    simp only [if_true]
    have hc : chkv (c + 1) n = 0 := by unfold chkv; rw [if_pos (by omega)]
    simp only [if_pos hc]
    by_cases hv : v0 > c
    · simp only [if_pos hv]; exact Ev.const rfl
    · simp only [if_neg hv]
      refine Ev.bind (cmpv_f _ _ _ _) ?_
      refine Ev.const ?_
      rcases cmpv_cases (c + 1) n v0 v1 with ⟨e1, h⟩ | ⟨e1, h⟩ | ⟨e1, h⟩
      · rw [e1]; rfl
      · omega
      · omega
end Go.Proofs.Ythalodnfecaccaa.Pure
