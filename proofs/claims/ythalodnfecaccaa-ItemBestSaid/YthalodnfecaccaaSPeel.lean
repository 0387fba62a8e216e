import Derived.Test.YthalodnfecaccaaWWords
import Derived.Test.YthalodnfecaccaaWMore
import Derived.Test.YthalodnfecaccaaWLast
namespace Go.Proofs.YthalodnfecaccaaW.PrintWords
open Go Go.RowKit Go.Proofs.YthalodnfecaccaaW.PrintLast Go.Proofs.YthalodnfecaccaaW.PrintMore
/-! Short names of three laws, for texts that are long. -/
theorem bN {w : World} {g : Nat} {o : Obj} (h : w.heap[g]? = some o) (n : Nat) : (w.drewN n).heap[g]? = some o := blk_drewN h n
theorem bD {w : World} {g : Nat} {o : Obj} (h : w.heap[g]? = some o) : w.drew.heap[g]? = some o := blk_drew h
theorem bA {w : World} {g : Nat} {o : Obj} (h : w.heap[g]? = some o) (o' : Obj) : (w.alloc o').heap[g]? = some o := blk_alloc h o'
end Go.Proofs.YthalodnfecaccaaW.PrintWords
