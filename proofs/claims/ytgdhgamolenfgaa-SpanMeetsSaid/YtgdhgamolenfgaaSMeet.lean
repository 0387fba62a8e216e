import Derived.Test.YtgdhgamolenfgaaPAllx0
import Derived.Test.YtgdhgamolenfgaaPAllx4
import Derived.Test.YtgdhgamolenfgaaPAllx5
import Derived.Test.YtgdhgamolenfgaaSEv
import Derived.Test.YtgdhgamolenfgaaSLists
import Derived.Test.YtgdhgamolenfgaaSRank
import Derived.Test.YtgdhgamolenfgaaSSpanE
import Derived.Test.YtgdhgamolenfgaaSEmpties
set_option linter.unusedVariables false
set_option linter.unusedSimpArgs false
namespace Go.Proofs.Ytgdhgamolenfgaa.Pure
open Go.RowKit Go.Proofs.Ytgdhgamolenfgaa.PAll Go.Proofs.YtgdhgamolenfgaaW.PrintWords Go.Proofs.YtgdhgamolenfgaaW.PrintLast Go.Proofs.YtgdhgamolenfgaaW.PrintMore
/-- Does a range lie within another? -/
def witK (alo ahi : ByteArray) (aop : Bool) (blo bhi : ByteArray) (bop : Bool) : Bool :=
  decide (rgE alo ahi aop = 0) && (decide (rgE blo bhi bop = 0) && (empK alo ahi aop || (!(Op.bytesLess alo.toList blo.toList) && (bop || (!aop && !(Op.bytesLess bhi.toList ahi.toList))))))
theorem wit_f (alo ahi : ByteArray) (aop : Bool) (blo bhi : ByteArray) (bop : Bool) : Ev (fun k => span_Within.f k alo ahi aop blo bhi bop) (witK alo ahi aop blo bhi bop) := by
  refine Ev.congr (fun k => by rw [span_Within.f]) (Ev.bind (rgE_f alo ahi aop) ?_)
  unfold witK
  by_cases h : rgE alo ahi aop = 0
  · simp only [if_pos h, decide_eq_true h, Bool.true_and]
    refine Ev.bind (rgE_f blo bhi bop) ?_
    by_cases h2 : rgE blo bhi bop = 0
    · simp only [if_pos h2, decide_eq_true h2, Bool.true_and]
      refine Ev.bind (emp_f alo ahi aop) ?_
      cases empK alo ahi aop with
      | true => exact Ev.const rfl
      | false =>
        refine Ev.const ?_
        cases Op.bytesLess alo.toList blo.toList <;> cases aop <;> cases bop <;> simp
    · simp only [if_neg h2, decide_eq_false h2]; exact Ev.const rfl
  · simp only [if_neg h, decide_eq_false h]; exact Ev.const rfl
/-- The lesser end of two ranges. -/
def endH (ahi : ByteArray) (aop : Bool) (bhi : ByteArray) (bop : Bool) : ByteArray := if (aop || (!bop && Op.bytesLess bhi.toList ahi.toList)) = true then bhi else ahi
def endO (ahi : ByteArray) (aop : Bool) (bhi : ByteArray) (bop : Bool) : Bool := if (aop || (!bop && Op.bytesLess bhi.toList ahi.toList)) = true then bop else aop
/-- Where two ranges meet. -/
def meetK (alo ahi : ByteArray) (aop : Bool) (blo bhi : ByteArray) (bop : Bool) : ByteArray × ByteArray × Bool × Bool :=
  if (empK alo ahi aop || empK blo bhi bop) = true then ((⟨#[]⟩ : ByteArray), (⟨#[]⟩ : ByteArray), false, false)
  else if empK (mxs alo blo) (endH ahi aop bhi bop) (endO ahi aop bhi bop) = true then ((⟨#[]⟩ : ByteArray), (⟨#[]⟩ : ByteArray), false, false)
  else (mxs alo blo, endH ahi aop bhi bop, endO ahi aop bhi bop, true)
theorem meet_f (alo ahi : ByteArray) (aop : Bool) (blo bhi : ByteArray) (bop : Bool) : Ev (fun k => span_Meet.f k alo ahi aop blo bhi bop) (meetK alo ahi aop blo bhi bop) := by
  refine Ev.congr (fun k => by rw [span_Meet.f]) (Ev.bind (emp_f alo ahi aop) ?_)
  have tail : ∀ c : Bool, c = (aop || (!bop && Op.bytesLess bhi.toList ahi.toList)) → Ev (fun k => span_Meet.j1 k c alo ahi aop blo bhi bop) (if empK (mxs alo blo) (endH ahi aop bhi bop) (endO ahi aop bhi bop) = true then ((⟨#[]⟩ : ByteArray), (⟨#[]⟩ : ByteArray), false, false) else (mxs alo blo, endH ahi aop bhi bop, endO ahi aop bhi bop, true)) := by
    intro c hc
    refine Ev.step (fun k => by rw [span_Meet.j1]) ?_
    cases c with
    | true =>
      simp only [if_true, endH, endO, ← hc]
      refine Ev.bind (emp_f _ _ _) ?_
      cases empK (mxs alo blo) bhi bop <;> exact Ev.const rfl
    | false =>
      simp only [if_neg (show ¬ (false = true) by decide), endH, endO, ← hc]
      refine Ev.bind (emp_f _ _ _) ?_
      cases empK (mxs alo blo) ahi aop <;> exact Ev.const rfl
  unfold meetK
  cases h : empK alo ahi aop with
  | true =>
    simp only [if_true, Bool.true_or]
    exact Ev.step (fun k => by rw [span_Meet.j0, if_pos rfl]) (Ev.const rfl)
  | false =>
    simp only [if_neg (show ¬ (false = true) by decide), Bool.false_or]
    refine Ev.bind (emp_f blo bhi bop) ?_
    refine Ev.step (fun k => by rw [span_Meet.j0]) ?_
    cases h2 : empK blo bhi bop with
    | true => exact Ev.const rfl
    | false =>
      simp only [if_neg (show ¬ (false = true) by decide)]
      cases h3 : aop with
      | true => simp only [if_true]; subst h3; exact tail true (by simp)
      | false =>
        simp only [if_neg (show ¬ (false = true) by decide)]
        cases h4 : bop with
        | true => simp only [if_true]; subst h3; subst h4; exact tail false (by simp)
        | false => simp only [if_neg (show ¬ (false = true) by decide)]; subst h3; subst h4; exact tail _ (by simp)
end Go.Proofs.Ytgdhgamolenfgaa.Pure
