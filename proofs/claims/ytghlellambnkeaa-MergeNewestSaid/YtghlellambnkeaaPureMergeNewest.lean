/- For all three lists the law MergeNewest answers true: Max hangs on no order and on no grouping, and is above both. It has no condition but the form's own reach. -/
import Derived.Test.YtghlellambnkeaaPAllx0
import Derived.Test.YtghlellambnkeaaPAllx7
import Derived.Test.YtghlellambnkeaaQMergeNewest
import Derived.Test.YtghlellambnkeaaSEv
import Derived.Test.YtghlellambnkeaaSLists
import Derived.Test.YtghlellambnkeaaSItemcmp
import Derived.Test.YtghlellambnkeaaSMergeP
import Derived.Test.YtghlellambnkeaaSChk09
import Derived.Test.YtghlellambnkeaaSPairs09
import Derived.Test.YtghlellambnkeaaSClean09
import Derived.Test.YtghlellambnkeaaSBeyond09
import Derived.Test.YtghlellambnkeaaSAbove09
import Derived.Test.YtghlellambnkeaaSEv09
import Derived.Test.YtghlellambnkeaaSMax09
import Derived.Test.YtghlellambnkeaaSMergeM
import Derived.Test.YtghlellambnkeaaSStr
set_option linter.unusedVariables false
set_option linter.unusedSimpArgs false
namespace Go.Proofs.Ytghlellambnkeaa.Pure
open Go.RowKit Go.Proofs.Ytghlellambnkeaa.PAll Go.Proofs.YtghlellambnkeaaW.PrintWords Go.Proofs.YtghlellambnkeaaW.PrintLast Go.Proofs.YtghlellambnkeaaW.PrintMore
open Go.Proofs.Ytghlellambnkeaa.MergeW Go.Proofs.Ytghlellambnkeaa.Str
theorem MergeNewest : tidelinelaw09_MergeNewest.Pure := by
  intro a b c fa fb fc
  have la : a.length ≤ 2513169434843 := by have := fa.1; omega
  have lb : b.length ≤ 2513169434843 := by have := fb.1; omega
  have lc : c.length ≤ 2513169434843 := by have := fc.1; omega
  refine Ev.rounds ?_
  refine Ev.congr (fun k => by rw [tidelinelaw09_MergeNewest.f]) ?_
  obtain ⟨bb, hbb, hlim⟩ := bey_f [a, b, c] (by simp) (by intro l hl; simp at hl; rcases hl with rfl | rfl | rfl <;> assumption)
  refine Ev.bind hbb ?_
  have done : Ev (fun k => tidelinelaw09_MergeNewest.j0 k a b c true) true := by
    refine Ev.step (fun k => by rw [tidelinelaw09_MergeNewest.j0]) ?_
    simp only [if_true]; exact Ev.const rfl
  cases bb with
  | true => simp only [if_true]; exact done
  | false =>
    have hs := hlim rfl
    simp only [List.map_cons, List.map_nil, List.sum_cons, List.sum_nil] at hs
    simp only [if_neg (show ¬ (false = true) by decide)]
    refine Ev.bind (clean_f a b (by omega)) ?_
    cases h1 : cleanB a b with
    | false => simp only [if_neg (show ¬ (false = true) by decide)]; exact done
    | true =>
      simp only [if_true]
      refine Ev.bind (clean_f b c (by omega)) ?_
      cases h2 : cleanB b c with
      | false => simp only [if_neg (show ¬ (false = true) by decide)]; exact done
      | true =>
        simp only [if_true]
        refine Ev.bind (clean_f a c (by omega)) ?_
        cases h3 : cleanB a c with
        | false => exact done
        | true =>
          obtain ⟨ca, cb, hcl⟩ := cleanB_parts h1
          obtain ⟨_, cc, _⟩ := cleanB_parts h2
          have ma := mapOK ca
          have mb := mapOK cb
          have mc := mapOK cc
          have mab := max_ok ma mb
          have mbc := max_ok mb mc
          have lab : (maxL (mp a b)).length ≤ a.length + b.length := max_len
          have lbc : (maxL (mp b c)).length ≤ b.length + c.length := max_len
          have laa : (maxL (mp a a)).length ≤ a.length + a.length := max_len
          have labc : (maxL (mp (maxL (mp a b)) c)).length ≤ (maxL (mp a b)).length + c.length := max_len
          refine Ev.step (fun k => by rw [tidelinelaw09_MergeNewest.j0]) ?_
          simp only [Bool.not_true, if_neg (show ¬ (false = true) by decide)]
          refine Ev.bind (max_ev a b (by omega) ca cb) ?_
          refine Ev.bind (max_ev b a (by omega) cb ca) ?_
          refine Ev.bind (max_ev b c (by omega) cb cc) ?_
          refine Ev.bind (max_ev a a (by omega) ca ca) ?_
          simp only [if_true]
          refine Ev.bind (same_f _ _ (by omega)) ?_
          rw [sameB_iff.2 (max_comm ma mb hcl)]
          simp only [if_true]
          refine Ev.bind (same_f _ _ (by omega)) ?_
          rw [sameB_iff.2 (max_self ma)]
          refine Ev.step (fun k => by rw [tidelinelaw09_MergeNewest.j1]) ?_
          simp only [Bool.not_true, if_neg (show ¬ (false = true) by decide)]
          refine Ev.bind (max_ev _ c (by omega) (map_chk mab) cc) ?_
          refine Ev.bind (max_ev a _ (by omega) ca (map_chk mbc)) ?_
          simp only [if_true]
          refine Ev.bind (same_f _ _ (by omega)) ?_
          rw [sameB_iff.2 (max_assoc ma mb mc)]
          refine Ev.step (fun k => by rw [tidelinelaw09_MergeNewest.j2]) ?_
          simp only [Bool.not_true, if_neg (show ¬ (false = true) by decide)]
          refine Ev.bind (above_ev _ a (by omega) (map_chk mab) ca) ?_
          refine Ev.bind (above_ev _ b (by omega) (map_chk mab) cb) ?_
          simp only [if_true, (max_above ma mb).1, (max_above ma mb).2]
          exact Ev.const rfl
end Go.Proofs.Ytghlellambnkeaa.Pure
