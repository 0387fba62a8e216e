-- By wip/ownrow.py (a program of this session).
import Derived.Test.YtcfiobhebakhlaaPAllx0
namespace Go.Proofs.Ytcfiobhebakhlaa.PAll
def fit36 (x : S36) : Prop := x.f0.size ≤ 140737488351232 ∧ x.f1.size ≤ 140737488351232 ∧ True
end Go.Proofs.Ytcfiobhebakhlaa.PAll
