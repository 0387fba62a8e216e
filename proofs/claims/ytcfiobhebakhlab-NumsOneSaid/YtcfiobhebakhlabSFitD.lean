-- By wip/ownrow.py (a program of this session).
import Derived.Test.YtcfiobhebakhlabPAllx0
namespace Go.Proofs.Ytcfiobhebakhlab.PAll
end Go.Proofs.Ytcfiobhebakhlab.PAll
