-- By wip/ownrow.py (a program of this session).
import Derived.Test.YtcfiobhebakhlabSFitD
import Derived.Test.YtcfiobhebakhlabSOpen
import Derived.KernelRfl
namespace Go.Proofs.Ytcfiobhebakhlab.PAll
open Go.Proofs.Ytcfiobhebakhlab.Open Go.Proofs.YtcfiobhebakhlabW.PrintWords
theorem opens34 : Opens Try.prog 34 k34 fit34 := (opens_iso (fun (p : (Int) × (Int) × (ByteArray) × (Int) × (Bool)) => (⟨p.1, p.2.1, p.2.2.1, p.2.2.2.1, p.2.2.2.2⟩ : S34)) (fun _ => rfl) (opens_struct Try.underlying34 (by kernel_rfl) (opensF_cons rfl (by kernel_rfl) (opens_int Try.underlying3) (opensF_cons rfl (by kernel_rfl) (opens_int Try.underlying3) (opensF_cons rfl (by kernel_rfl) (opens_string Try.underlying9) (opensF_cons rfl (by kernel_rfl) (opens_int Try.underlying32) (opensF_one rfl (by kernel_rfl) (opens_bool Try.underlying4))))))) (by intro y h; exact h))
end Go.Proofs.Ytcfiobhebakhlab.PAll
