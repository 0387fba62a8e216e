import Derived.Test.YtgdhgamolenfgaaPAllx0
import Derived.Test.YtgdhgamolenfgaaPAllx4
import Derived.Test.YtgdhgamolenfgaaSEv
import Derived.Test.YtgdhgamolenfgaaSLists
import Derived.Test.YtgdhgamolenfgaaSSpanE
set_option linter.unusedVariables false
set_option linter.unusedSimpArgs false
namespace Go.Proofs.Ytgdhgamolenfgaa.Pure
open Go.RowKit Go.Proofs.Ytgdhgamolenfgaa.PAll Go.Proofs.YtgdhgamolenfgaaW.PrintWords Go.Proofs.YtgdhgamolenfgaaW.PrintLast Go.Proofs.YtgdhgamolenfgaaW.PrintMore
/-- Is a range empty? -/
def empK (lo hi : ByteArray) (op : Bool) : Bool := !decide (rgE lo hi op = 0) || (!op && (lo.toList == hi.toList))
theorem emp_f (lo hi : ByteArray) (op : Bool) : Ev (fun k => span_Empty.f k lo hi op) (empK lo hi op) := by
  refine Ev.congr (fun k => by rw [span_Empty.f]) (Ev.bind (rgE_f lo hi op) ?_)
  unfold empK
  by_cases h : rgE lo hi op = 0
  · simp only [if_pos h, decide_eq_true h]
    refine Ev.const ?_
    cases op <;> simp
  · simp only [if_neg h, decide_eq_false h]; exact Ev.const rfl
end Go.Proofs.Ytgdhgamolenfgaa.Pure
