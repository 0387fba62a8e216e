import Derived.Test.YtcfiobhebakhlaaPAllx0
import Derived.Test.YtcfiobhebakhlaaPAllx5
import Derived.Test.YtcfiobhebakhlaaSEv
import Derived.Test.YtcfiobhebakhlaaSLists
import Derived.Test.YtcfiobhebakhlaaSSpanE
import Derived.Test.YtcfiobhebakhlaaSSpanR
set_option linter.unusedVariables false
set_option linter.unusedSimpArgs false
namespace Go.Proofs.Ytcfiobhebakhlaa.Pure
open Go.RowKit Go.Proofs.Ytcfiobhebakhlaa.PAll Go.Proofs.YtcfiobhebakhlaaW.PrintWords Go.Proofs.YtcfiobhebakhlaaW.PrintLast Go.Proofs.YtcfiobhebakhlaaW.PrintMore
theorem hasK_ref (lo hi : ByteArray) (op : Bool) (key : ByteArray) : Ev (fun k => tidelineref02_Holds.f k lo hi op key) (hasK lo hi op key) := by
  refine Ev.congr (fun k => by rw [tidelineref02_Holds.f]) ?_
  refine Ev.bind (rgE_ref lo hi op) ?_
  unfold hasK
  by_cases h : rgE lo hi op = 0
  · simp only [if_pos h, decide_eq_true h, Bool.true_and]
    by_cases h2 : key.size ≤ 16
    · simp only [if_pos (show (key.size : Int) ≤ 16 by omega), decide_eq_true h2, Bool.true_and]
      cases h3 : Op.bytesLess key.toList lo.toList with
      | true => exact Ev.const rfl
      | false =>
        simp only [if_neg (show ¬ (false = true) by decide), Bool.not_false, Bool.true_and]
        refine Ev.const ?_
        cases op <;> simp
    · simp only [if_neg (show ¬ (key.size : Int) ≤ 16 by omega), decide_eq_false h2, Bool.false_and]; exact Ev.const rfl
  · simp only [if_neg h, decide_eq_false h, Bool.false_and]; exact Ev.const rfl
end Go.Proofs.Ytcfiobhebakhlaa.Pure
