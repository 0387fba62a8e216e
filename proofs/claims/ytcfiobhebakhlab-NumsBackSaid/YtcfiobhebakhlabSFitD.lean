-- By wip/ownrow.py (a program of this session).
import Derived.Test.YtcfiobhebakhlabPAllx0
namespace Go.Proofs.Ytcfiobhebakhlab.PAll
def fit34 (x : S34) : Prop := (Lit.int .i64 x.f0).wf = true ∧ (Lit.int .i64 x.f1).wf = true ∧ x.f2.size ≤ 140737488351232 ∧ (Lit.int .u64 x.f3).wf = true ∧ True
end Go.Proofs.Ytcfiobhebakhlab.PAll
