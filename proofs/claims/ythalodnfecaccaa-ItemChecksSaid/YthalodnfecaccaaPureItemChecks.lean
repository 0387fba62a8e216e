/- For every entry the law ItemChecks answers true: which entries may be is what the document says. It has no condition but the form's own reach. -/
import Derived.Test.YthalodnfecaccaaPAllx2
import Derived.Test.YthalodnfecaccaaPAllx3
import Derived.Test.YthalodnfecaccaaQItemChecks
import Derived.Test.YthalodnfecaccaaSEv
import Derived.Test.YthalodnfecaccaaSItem1
set_option linter.unusedVariables false
set_option linter.unusedSimpArgs false
namespace Go.Proofs.Ythalodnfecaccaa.Pure
open Go.RowKit Go.Proofs.Ythalodnfecaccaa.PAll Go.Proofs.YthalodnfecaccaaW.PrintWords Go.Proofs.YthalodnfecaccaaW.PrintLast Go.Proofs.YthalodnfecaccaaW.PrintMore
theorem check_same (k : ByteArray) (c n : Int) (v : ByteArray) (d : Bool) : item_Check.f k c n v d = tidelineref03_Check.f k c n v d := by
  unfold item_Check.f tidelineref03_Check.f
  rw [chkv_f, chkv_ref]
theorem check_some (k : ByteArray) (c n : Int) (v : ByteArray) (d : Bool) : ∃ r, item_Check.f k c n v d = some r := by
  unfold item_Check.f
  rw [chkv_f, Option.bind_some]
  (repeat' split) <;> exact ⟨_, rfl⟩
theorem ItemChecks : tidelinelaw03_ItemChecks.Pure := by
  intro k c n v d _
  unfold tidelinelaw03_ItemChecks.f
  obtain ⟨r, hr⟩ := check_some k c n v d
  rw [← check_same, hr]
  unfold tidelinelaw03_long.f
  by_cases h : (k.size : Int) > 1073741824
  · rw [if_pos h]; rfl
  · rw [if_neg h]
    by_cases h2 : (v.size : Int) > 1073741824
    · rw [decide_eq_true h2]; rfl
    · rw [decide_eq_false h2]; simp
end Go.Proofs.Ythalodnfecaccaa.Pure
