-- By wip/ownrow.py (a program of this session).
import Derived.Test.YthnjlbdkcpgcjaaDoorPAllx0
namespace Go.Proofs.YthnjlbdkcpgcjaaDoor.PAll
def fit23 (x : S23) : Prop := (Lit.int .i64 x.f0).wf = true ∧ (Lit.int .i64 x.f1).wf = true
def fit25 (x : S25) : Prop := x.f0.size ≤ 140737488351232 ∧ fit23 x.f1 ∧ x.f2.size ≤ 140737488351232 ∧ True
end Go.Proofs.YthnjlbdkcpgcjaaDoor.PAll
