/- For any two ranges the law SpanPairs answers true: Within and Meet, either way round, are the document's. It has no condition but the form's own reach. -/
import Derived.Test.YtgdhgamolenfgaaPAllx0
import Derived.Test.YtgdhgamolenfgaaPAllx7
import Derived.Test.YtgdhgamolenfgaaQSpanPairs
import Derived.Test.YtgdhgamolenfgaaSEv
import Derived.Test.YtgdhgamolenfgaaSLists
import Derived.Test.YtgdhgamolenfgaaSShown02
import Derived.Test.YtgdhgamolenfgaaSRank
import Derived.Test.YtgdhgamolenfgaaSSpanE
import Derived.Test.YtgdhgamolenfgaaSSpanR
import Derived.Test.YtgdhgamolenfgaaSEmpties
import Derived.Test.YtgdhgamolenfgaaSEmptiesR
import Derived.Test.YtgdhgamolenfgaaSMeet
import Derived.Test.YtgdhgamolenfgaaSRangeN
import Derived.Test.YtgdhgamolenfgaaSMeetR
set_option linter.unusedVariables false
set_option linter.unusedSimpArgs false
namespace Go.Proofs.Ytgdhgamolenfgaa.Pure
open Go.RowKit Go.Proofs.Ytgdhgamolenfgaa.PAll Go.Proofs.YtgdhgamolenfgaaW.PrintWords Go.Proofs.YtgdhgamolenfgaaW.PrintLast Go.Proofs.YtgdhgamolenfgaaW.PrintMore
theorem SpanPairs : tidelinelaw02_SpanPairs.Pure := by
  intro alo ahi aop blo bhi bop _ _
  refine Ev.rounds ?_
  refine Ev.congr (fun k => by rw [tidelinelaw02_SpanPairs.f]) ?_
  refine Ev.bind shown_f ?_
  simp only [if_true]
  refine Ev.bind (meet_f alo ahi aop blo bhi bop) (Ev.bind (rmeet_f alo ahi aop blo bhi bop) (Ev.bind (meet_f blo bhi bop alo ahi aop) ?_))
  rw [meet_eq, meet_eq, rmeet_comm]
  simp only [beq_self_eq_true, Bool.and_self, if_true]
  refine Ev.bind (wit_f alo ahi aop blo bhi bop) (Ev.bind (wit_ref alo ahi aop blo bhi bop) ?_)
  simp only [beq_self_eq_true, if_true]
  refine Ev.bind (wit_f blo bhi bop alo ahi aop) (Ev.bind (wit_ref blo bhi bop alo ahi aop) ?_)
  simp only [beq_self_eq_true]
  exact Ev.const rfl
end Go.Proofs.Ytgdhgamolenfgaa.Pure
