-- By wip/ownrow.py (a program of this session).
import Derived.Test.YtghlellambnkeaaSFitD
import Derived.Test.YtghlellambnkeaaSOpen
import Derived.KernelRfl
namespace Go.Proofs.Ytghlellambnkeaa.PAll
open Go.Proofs.Ytghlellambnkeaa.Open Go.Proofs.YtghlellambnkeaaW.PrintWords
theorem opens42 : Opens Try.prog 42 k42 fit42 := (opens_iso (fun (p : (Int) × (Int)) => (⟨p.1, p.2⟩ : S42)) (fun _ => rfl) (opens_struct Try.underlying42 (by kernel_rfl) (opensF_cons rfl (by kernel_rfl) (opens_int Try.underlying3) (opensF_one rfl (by kernel_rfl) (opens_int Try.underlying3)))) (by intro y h; exact h))
theorem opens44 : Opens Try.prog 44 k44 fit44 := (opens_iso (fun (p : (ByteArray) × (S42) × (ByteArray) × (Bool)) => (⟨p.1, p.2.1, p.2.2.1, p.2.2.2⟩ : S44)) (fun _ => rfl) (opens_struct Try.underlying44 (by kernel_rfl) (opensF_cons rfl (by kernel_rfl) (opens_string Try.underlying9) (opensF_cons rfl (by kernel_rfl) opens42 (opensF_cons rfl (by kernel_rfl) (opens_string Try.underlying9) (opensF_one rfl (by kernel_rfl) (opens_bool Try.underlying4)))))) (by intro y h; exact h))
end Go.Proofs.Ytghlellambnkeaa.PAll
