-- By wip/ownrow.py (a program of this session).
import Derived.Test.YtcfiobhebakhlaaSFitD
import Derived.Test.YtcfiobhebakhlaaSOpen
import Derived.KernelRfl
namespace Go.Proofs.Ytcfiobhebakhlaa.PAll
open Go.Proofs.Ytcfiobhebakhlaa.Open Go.Proofs.YtcfiobhebakhlaaW.PrintWords
theorem opens36 : Opens Try.prog 36 k36 fit36 := (opens_iso (fun (p : (ByteArray) × (ByteArray) × (Bool)) => (⟨p.1, p.2.1, p.2.2⟩ : S36)) (fun _ => rfl) (opens_struct Try.underlying36 (by kernel_rfl) (opensF_cons rfl (by kernel_rfl) (opens_string Try.underlying9) (opensF_cons rfl (by kernel_rfl) (opens_string Try.underlying9) (opensF_one rfl (by kernel_rfl) (opens_bool Try.underlying4))))) (by intro y h; exact h))
end Go.Proofs.Ytcfiobhebakhlaa.PAll
