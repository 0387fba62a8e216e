/- For every range and every text the law SpanChecks answers true: Check, Empty and Holds are the document's. It has no condition but the form's own reach. -/
import Derived.Test.YtgdhgamolenfgaaPAllx0
import Derived.Test.YtgdhgamolenfgaaPAllx14
import Derived.Test.YtgdhgamolenfgaaQSpanChecks
import Derived.Test.YtgdhgamolenfgaaSEv
import Derived.Test.YtgdhgamolenfgaaSLists
import Derived.Test.YtgdhgamolenfgaaSShown02
import Derived.Test.YtgdhgamolenfgaaSSpanE
import Derived.Test.YtgdhgamolenfgaaSSpanR
import Derived.Test.YtgdhgamolenfgaaSEmpties
set_option linter.unusedVariables false
set_option linter.unusedSimpArgs false
namespace Go.Proofs.Ytgdhgamolenfgaa.Pure
open Go.RowKit Go.Proofs.Ytgdhgamolenfgaa.PAll Go.Proofs.YtgdhgamolenfgaaW.PrintWords Go.Proofs.YtgdhgamolenfgaaW.PrintLast Go.Proofs.YtgdhgamolenfgaaW.PrintMore
theorem SpanChecks : tidelinelaw02_SpanChecks.Pure := by
  intro lo hi op key _ _
  refine Ev.rounds ?_
  refine Ev.congr (fun k => by rw [tidelinelaw02_SpanChecks.f]) ?_
  refine Ev.bind shown_f ?_
  simp only [if_true]
  refine Ev.bind (rgE_f lo hi op) (Ev.bind (rgE_ref lo hi op) ?_)
  simp only [if_true]
  refine Ev.bind (emp_f lo hi op) (Ev.bind (emp_ref lo hi op) ?_)
  simp only [beq_self_eq_true, if_true]
  refine Ev.bind (hasK_f lo hi op key) (Ev.bind (hasK_ref lo hi op key) ?_)
  exact Ev.const (by simp)
end Go.Proofs.Ytgdhgamolenfgaa.Pure
