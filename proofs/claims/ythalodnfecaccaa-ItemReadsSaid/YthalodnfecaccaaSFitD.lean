-- By wip/ownrow.py (a program of this session).
import Derived.Test.YthalodnfecaccaaPAllx0
namespace Go.Proofs.Ythalodnfecaccaa.PAll
end Go.Proofs.Ythalodnfecaccaa.PAll
