-- By wip/ownrow.py (a program of this session).
import Derived.Test.YthnjlbdkcpgcjaaDoorSFitD
import Derived.Test.YthnjlbdkcpgcjaaDoorSOpen
import Derived.KernelRfl
namespace Go.Proofs.YthnjlbdkcpgcjaaDoor.PAll
open Go.Proofs.YthnjlbdkcpgcjaaDoor.Open Go.Proofs.YthnjlbdkcpgcjaaDoorW.PrintWords
theorem opens23 : Opens Tryd.prog 23 k23 fit23 := (opens_iso (fun (p : (Int) × (Int)) => (⟨p.1, p.2⟩ : S23)) (fun _ => rfl) (opens_struct Tryd.underlying23 (by kernel_rfl) (opensF_cons rfl (by kernel_rfl) (opens_int Tryd.underlying3) (opensF_one rfl (by kernel_rfl) (opens_int Tryd.underlying3)))) (by intro y h; exact h))
theorem opens25 : Opens Tryd.prog 25 k25 fit25 := (opens_iso (fun (p : (ByteArray) × (S23) × (ByteArray) × (Bool)) => (⟨p.1, p.2.1, p.2.2.1, p.2.2.2⟩ : S25)) (fun _ => rfl) (opens_struct Tryd.underlying25 (by kernel_rfl) (opensF_cons rfl (by kernel_rfl) (opens_string Tryd.underlying9) (opensF_cons rfl (by kernel_rfl) opens23 (opensF_cons rfl (by kernel_rfl) (opens_string Tryd.underlying9) (opensF_one rfl (by kernel_rfl) (opens_bool Tryd.underlying4)))))) (by intro y h; exact h))
end Go.Proofs.YthnjlbdkcpgcjaaDoor.PAll
