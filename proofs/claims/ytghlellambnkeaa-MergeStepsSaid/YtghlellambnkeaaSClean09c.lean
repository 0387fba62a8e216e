import Derived.Test.YtghlellambnkeaaPAllx0
import Derived.Test.YtghlellambnkeaaSEv
import Derived.Test.YtghlellambnkeaaSLists
import Derived.Test.YtghlellambnkeaaSMergeP
import Derived.Test.YtghlellambnkeaaSChk09
import Derived.Test.YtghlellambnkeaaSPairs09
import Derived.Test.YtghlellambnkeaaSClean09b
import Derived.Test.YtghlellambnkeaaSMergeA
set_option linter.unusedVariables false
set_option linter.unusedSimpArgs false
namespace Go.Proofs.Ytghlellambnkeaa.Pure
open Go.RowKit Go.Proofs.Ytghlellambnkeaa.PAll Go.Proofs.YtghlellambnkeaaW.PrintWords Go.Proofs.YtghlellambnkeaaW.PrintLast Go.Proofs.YtghlellambnkeaaW.PrintMore
open Go.Proofs.Ytghlellambnkeaa.MergeW
def verQ (x y : S44) : Bool := (x.f1.f0 == y.f1.f0) && (x.f1.f1 == y.f1.f1)
/-- Two entries of one version are alike. -/
def okP (t : S44 × S44) : Bool := !(verQ t.1 t.2 && neE t.1 t.2)
theorem rd46 {l : List S46} {i : Nat} (h : i < l.length) : rd_T46 l (i : Int) = l[i] := by
  unfold rd_T46
  rw [Int.toNat_natCast, List.getD_eq_getElem?_getD, List.getElem?_eq_getElem h]; rfl
end Go.Proofs.Ytghlellambnkeaa.Pure
