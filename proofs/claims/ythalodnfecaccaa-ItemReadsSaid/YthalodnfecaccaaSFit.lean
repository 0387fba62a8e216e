-- By wip/ownrow.py (a program of this session).
import Derived.Test.YthalodnfecaccaaSFitD
import Derived.Test.YthalodnfecaccaaSOpen
import Derived.KernelRfl
namespace Go.Proofs.Ythalodnfecaccaa.PAll
open Go.Proofs.Ythalodnfecaccaa.Open Go.Proofs.YthalodnfecaccaaW.PrintWords
end Go.Proofs.Ythalodnfecaccaa.PAll
