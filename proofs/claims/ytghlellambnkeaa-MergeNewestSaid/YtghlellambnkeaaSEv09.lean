import Derived.Test.YtghlellambnkeaaPAllx0
import Derived.Test.YtghlellambnkeaaSEv
import Derived.Test.YtghlellambnkeaaSLists
import Derived.Test.YtghlellambnkeaaSItemcmp
import Derived.Test.YtghlellambnkeaaSMergeP
import Derived.Test.YtghlellambnkeaaSChk09
import Derived.Test.YtghlellambnkeaaSPairs09
import Derived.Test.YtghlellambnkeaaSClean09
import Derived.Test.YtghlellambnkeaaSAbove09
import Derived.Test.YtghlellambnkeaaSMerge
import Derived.Test.YtghlellambnkeaaSStr
set_option linter.unusedVariables false
set_option linter.unusedSimpArgs false
namespace Go.Proofs.Ytghlellambnkeaa.Pure
open Go.RowKit Go.Proofs.Ytghlellambnkeaa.PAll Go.Proofs.YtghlellambnkeaaW.PrintWords Go.Proofs.YtghlellambnkeaaW.PrintLast Go.Proofs.YtghlellambnkeaaW.PrintMore
open Go.Proofs.Ytghlellambnkeaa.MergeW Go.Proofs.Ytghlellambnkeaa.Str
theorem above_ev (a b : List S44) (h : a.length + b.length ≤ 1256584717457) (ha : chkL a = 0) (hb : chkL b = 0) : Ev (fun k => merge_Above.f k a b) (aboveB (mp a b), 0) := by
  refine Ev.congr (fun k => by rw [merge_Above.f]) (Ev.bind (chk2_f a b (by omega) (by omega)) ?_)
  have hc : chk2 a b = 0 := by unfold chk2; rw [if_pos ha]; exact hb
  rw [hc]
  exact Ev.const rfl
theorem cleanB_parts {a b : List S44} (h : cleanB a b = true) : chkL a = 0 ∧ chkL b = 0 ∧ (mp a b).all okP = true := by
  unfold cleanB at h
  simp only [Bool.and_eq_true, decide_eq_true_eq] at h
  exact h
end Go.Proofs.Ytghlellambnkeaa.Pure
