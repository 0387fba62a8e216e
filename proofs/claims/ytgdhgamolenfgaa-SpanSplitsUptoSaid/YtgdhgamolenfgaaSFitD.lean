-- By wip/ownrow.py (a program of this session).
import Derived.Test.YtgdhgamolenfgaaPAllx0
namespace Go.Proofs.Ytgdhgamolenfgaa.PAll
def fit23 (x : S23) : Prop := x.f0.size ≤ 140737488351232 ∧ x.f1.size ≤ 140737488351232 ∧ True
end Go.Proofs.Ytgdhgamolenfgaa.PAll
