import Derived.Test.YtgdhgamolenfgaaPAllx0
import Derived.Test.YtgdhgamolenfgaaPAllx2
import Derived.Test.YtgdhgamolenfgaaSEv
import Derived.Test.YtgdhgamolenfgaaSLists
import Derived.Test.YtgdhgamolenfgaaSStr
set_option linter.unusedVariables false
set_option linter.unusedSimpArgs false
namespace Go.Proofs.Ytgdhgamolenfgaa.Pure
open Go.RowKit Go.Proofs.Ytgdhgamolenfgaa.PAll Go.Proofs.YtgdhgamolenfgaaW.PrintWords Go.Proofs.YtgdhgamolenfgaaW.PrintLast Go.Proofs.YtgdhgamolenfgaaW.PrintMore
/-- What is wrong with a range. -/
def rgE (lo hi : ByteArray) (op : Bool) : Int := if lo.size > 16 ∨ hi.size > 16 then 20 else if op = true then (if hi.toList = [] then 0 else 21) else if Op.bytesLess hi.toList lo.toList = true then 21 else 0
/-- Has a range a key? -/
def hasK (lo hi : ByteArray) (op : Bool) (key : ByteArray) : Bool := decide (rgE lo hi op = 0) && decide (key.size ≤ 16) && !(Op.bytesLess key.toList lo.toList) && (op || Op.bytesLess key.toList hi.toList)
theorem below_f (key lo hi : ByteArray) (op : Bool) : span_below.f key lo hi op = some (op || Op.bytesLess key.toList hi.toList) := by
  unfold span_below.f; cases op <;> rfl
theorem rgE_f (lo hi : ByteArray) (op : Bool) : Ev (fun k => span_Check.f k lo hi op) (rgE lo hi op) := by
  have g : ∀ k, span_Check.f k lo hi op = span_Check.j0 k (decide (lo.size > 16 ∨ hi.size > 16)) lo hi op := by
    intro k
    unfold span_Check.f
    by_cases h : (lo.size : Int) > 16
    · rw [if_pos h, decide_eq_true h, decide_eq_true (show lo.size > 16 ∨ hi.size > 16 by omega)]
    · rw [if_neg h]
      by_cases h2 : (hi.size : Int) > 16
      · rw [decide_eq_true h2, decide_eq_true (show lo.size > 16 ∨ hi.size > 16 by omega)]
      · rw [decide_eq_false h2, decide_eq_false (show ¬ (lo.size > 16 ∨ hi.size > 16) by omega)]
  refine Ev.congr g (Ev.step (fun k => by rw [span_Check.j0]) ?_)
  unfold rgE
  by_cases h : lo.size > 16 ∨ hi.size > 16
  · rw [decide_eq_true h, if_pos h]; exact Ev.const rfl
  · rw [decide_eq_false h, if_neg h]
    simp only [if_neg (show ¬ (false = true) by decide)]
    cases op with
    | true =>
      simp only [if_true]
      refine Ev.step (fun k => by rw [span_Check.j1]) ?_
      by_cases h2 : hi.toList = []
      · simp only [h2, if_true]; exact Ev.const rfl
      · have : (hi.toList != ([] : List UInt8)) = true := by rw [bne_iff_ne]; exact h2
        simp only [this, if_neg h2, if_true]; exact Ev.const rfl
    | false =>
      simp only [if_neg (show ¬ (false = true) by decide)]
      refine Ev.step (fun k => by rw [span_Check.j1]) ?_
      simp only [if_neg (show ¬ (false = true) by decide)]
      by_cases h2 : Op.bytesLess hi.toList lo.toList = true
      · simp only [if_pos h2]; exact Ev.const rfl
      · simp only [if_neg h2]; exact Ev.const rfl
theorem hasK_f (lo hi : ByteArray) (op : Bool) (key : ByteArray) : Ev (fun k => span_Holds.f k lo hi op key) (hasK lo hi op key) := by
  refine Ev.congr (fun k => by rw [span_Holds.f]) ?_
  refine Ev.bind (rgE_f lo hi op) ?_
  unfold hasK
  by_cases h : rgE lo hi op = 0
  · simp only [if_pos h, decide_eq_true h, Bool.true_and]
    by_cases h2 : key.size ≤ 16
    · simp only [if_pos (show (key.size : Int) ≤ 16 by omega), decide_eq_true h2, Bool.true_and]
      cases h3 : Op.bytesLess key.toList lo.toList with
      | true => exact Ev.const rfl
      | false => simp only [if_neg (show ¬ (false = true) by decide), below_f, Option.bind_some, Bool.not_false, Bool.true_and]; exact Ev.const rfl
    · simp only [if_neg (show ¬ (key.size : Int) ≤ 16 by omega), decide_eq_false h2, Bool.false_and]; exact Ev.const rfl
  · simp only [if_neg h, decide_eq_false h, Bool.false_and]; exact Ev.const rfl
end Go.Proofs.Ytgdhgamolenfgaa.Pure
