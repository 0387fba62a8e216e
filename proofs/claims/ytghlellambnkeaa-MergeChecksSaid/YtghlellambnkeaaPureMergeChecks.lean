/- For every list the law MergeChecks answers true: merge.Check tells which lists are maps as the document does, and what is handed in stays as it was. It has no condition but the form's own reach. -/
import Derived.Test.YtghlellambnkeaaPAllx0
import Derived.Test.YtghlellambnkeaaQMergeChecks
import Derived.Test.YtghlellambnkeaaSEv
import Derived.Test.YtghlellambnkeaaSLists
import Derived.Test.YtghlellambnkeaaSItemcmp
import Derived.Test.YtghlellambnkeaaSMergeP
import Derived.Test.YtghlellambnkeaaSChk09
import Derived.Test.YtghlellambnkeaaSClean09b
import Derived.Test.YtghlellambnkeaaSBeyond09
import Derived.Test.YtghlellambnkeaaSLawChecks
set_option linter.unusedVariables false
set_option linter.unusedSimpArgs false
namespace Go.Proofs.Ytghlellambnkeaa.Pure
open Go.RowKit Go.Proofs.Ytghlellambnkeaa.PAll Go.Proofs.YtghlellambnkeaaW.PrintWords Go.Proofs.YtghlellambnkeaaW.PrintLast Go.Proofs.YtghlellambnkeaaW.PrintMore
theorem MergeChecks : tidelinelaw09_MergeChecks.Pure := by
  intro a fa
  have la : a.length ≤ 2513169434843 := by have := fa.1; omega
  refine Ev.rounds ?_
  refine Ev.congr (fun k => by rw [tidelinelaw09_MergeChecks.f]) ?_
  obtain ⟨bb, hbb, hlim⟩ := bey_f [a] (by simp) (by intro l hl; simp at hl; subst hl; assumption)
  refine Ev.bind hbb ?_
  cases bb with
  | true => simp only [if_true]; exact Ev.const rfl
  | false =>
    simp only [if_neg (show ¬ (false = true) by decide), if_pos la]
    refine Ev.bind (chk_f a la) (Ev.bind (chk_ref a la) ?_)
    simp only [if_true]
    refine Ev.bind (same_f a a (by omega)) ?_
    rw [sameB_iff.2 rfl]
    simp only [if_true]
    exact Ev.const rfl
end Go.Proofs.Ytghlellambnkeaa.Pure
