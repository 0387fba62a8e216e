-- By wip/ownrow.py (a program of this session).
import Derived.Test.YtghlellambnkeaaPAllx0
namespace Go.Proofs.Ytghlellambnkeaa.PAll
def fit42 (x : S42) : Prop := (Lit.int .i64 x.f0).wf = true ∧ (Lit.int .i64 x.f1).wf = true
def fit44 (x : S44) : Prop := x.f0.size ≤ 140737488351232 ∧ fit42 x.f1 ∧ x.f2.size ≤ 140737488351232 ∧ True
end Go.Proofs.Ytghlellambnkeaa.PAll
