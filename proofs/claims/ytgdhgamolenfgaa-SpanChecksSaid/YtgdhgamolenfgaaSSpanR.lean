import Derived.Test.YtgdhgamolenfgaaPAllx0
import Derived.Test.YtgdhgamolenfgaaPAllx13
import Derived.Test.YtgdhgamolenfgaaSEv
import Derived.Test.YtgdhgamolenfgaaSLists
import Derived.Test.YtgdhgamolenfgaaSSpanE
set_option linter.unusedVariables false
set_option linter.unusedSimpArgs false
namespace Go.Proofs.Ytgdhgamolenfgaa.Pure
open Go.RowKit Go.Proofs.Ytgdhgamolenfgaa.PAll Go.Proofs.YtgdhgamolenfgaaW.PrintWords Go.Proofs.YtgdhgamolenfgaaW.PrintLast Go.Proofs.YtgdhgamolenfgaaW.PrintMore
theorem rgE_ref (lo hi : ByteArray) (op : Bool) : Ev (fun k => tidelineref02_Check.f k lo hi op) (rgE lo hi op) := by
  have g : ∀ k, tidelineref02_Check.f k lo hi op = tidelineref02_Check.j0 k (decide (lo.size > 16 ∨ hi.size > 16)) lo hi op := by
    intro k
    unfold tidelineref02_Check.f
    by_cases h : (lo.size : Int) > 16
    · rw [if_pos h, decide_eq_true (show lo.size > 16 ∨ hi.size > 16 by omega)]
    · rw [if_neg h]
      by_cases h2 : (hi.size : Int) > 16
      · rw [decide_eq_true h2, decide_eq_true (show lo.size > 16 ∨ hi.size > 16 by omega)]
      · rw [decide_eq_false h2, decide_eq_false (show ¬ (lo.size > 16 ∨ hi.size > 16) by omega)]
  refine Ev.congr g (Ev.step (fun k => by rw [tidelineref02_Check.j0]) ?_)
  unfold rgE
  by_cases h : lo.size > 16 ∨ hi.size > 16
  · rw [decide_eq_true h, if_pos h]; exact Ev.const rfl
  · rw [decide_eq_false h, if_neg h]
    simp only [if_neg (show ¬ (false = true) by decide)]
    refine Ev.const ?_
    cases op with
    | true => by_cases h2 : hi.toList = [] <;> simp [h2]
    | false => by_cases h2 : Op.bytesLess hi.toList lo.toList = true <;> simp [h2]
theorem hasK_ref (lo hi : ByteArray) (op : Bool) (key : ByteArray) : Ev (fun k => tidelineref02_Holds.f k lo hi op key) (hasK lo hi op key) := by
  refine Ev.congr (fun k => by rw [tidelineref02_Holds.f]) ?_
  refine Ev.bind (rgE_ref lo hi op) ?_
  unfold hasK
  by_cases h : rgE lo hi op = 0
  · simp only [if_pos h, decide_eq_true h, Bool.true_and]
    by_cases h2 : key.size ≤ 16
    · simp only [if_pos (show (key.size : Int) ≤ 16 by omega), decide_eq_true h2, Bool.true_and]
      cases h3 : Op.bytesLess key.toList lo.toList with
      | true => exact Ev.const rfl
      | false =>
        simp only [if_neg (show ¬ (false = true) by decide), Bool.not_false, Bool.true_and]
        refine Ev.const ?_
        cases op <;> simp
    · simp only [if_neg (show ¬ (key.size : Int) ≤ 16 by omega), decide_eq_false h2, Bool.false_and]; exact Ev.const rfl
  · simp only [if_neg h, decide_eq_false h, Bool.false_and]; exact Ev.const rfl
end Go.Proofs.Ytgdhgamolenfgaa.Pure
