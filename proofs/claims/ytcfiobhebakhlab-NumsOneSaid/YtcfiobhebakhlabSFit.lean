-- By wip/ownrow.py (a program of this session).
import Derived.Test.YtcfiobhebakhlabSFitD
import Derived.Test.YtcfiobhebakhlabSOpen
import Derived.KernelRfl
namespace Go.Proofs.Ytcfiobhebakhlab.PAll
open Go.Proofs.Ytcfiobhebakhlab.Open Go.Proofs.YtcfiobhebakhlabW.PrintWords
end Go.Proofs.Ytcfiobhebakhlab.PAll
