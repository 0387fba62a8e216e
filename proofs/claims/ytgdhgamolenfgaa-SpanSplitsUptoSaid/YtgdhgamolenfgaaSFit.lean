-- By wip/ownrow.py (a program of this session).
import Derived.Test.YtgdhgamolenfgaaSFitD
import Derived.Test.YtgdhgamolenfgaaSOpen
import Derived.KernelRfl
namespace Go.Proofs.Ytgdhgamolenfgaa.PAll
open Go.Proofs.Ytgdhgamolenfgaa.Open Go.Proofs.YtgdhgamolenfgaaW.PrintWords
theorem opens23 : Opens Try.prog 23 k23 fit23 := (opens_iso (fun (p : (ByteArray) × (ByteArray) × (Bool)) => (⟨p.1, p.2.1, p.2.2⟩ : S23)) (fun _ => rfl) (opens_struct Try.underlying23 (by kernel_rfl) (opensF_cons rfl (by kernel_rfl) (opens_string Try.underlying9) (opensF_cons rfl (by kernel_rfl) (opens_string Try.underlying9) (opensF_one rfl (by kernel_rfl) (opens_bool Try.underlying4))))) (by intro y h; exact h))
end Go.Proofs.Ytgdhgamolenfgaa.PAll
