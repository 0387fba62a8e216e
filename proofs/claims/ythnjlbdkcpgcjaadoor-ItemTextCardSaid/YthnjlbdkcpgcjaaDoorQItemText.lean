-- By wip/ownrow.py (a program of this session).
import Derived.Test.YthnjlbdkcpgcjaaDoorSFitD
import Derived.Test.YthnjlbdkcpgcjaaDoorPAllx10
import Derived.Test.YthnjlbdkcpgcjaaDoorPAllx0
set_option linter.unusedVariables false
namespace Go.Proofs.YthnjlbdkcpgcjaaDoor.PAll
open Go.RowKit Go.Proofs.YthnjlbdkcpgcjaaDoorW.PrintWords Go.Proofs.YthnjlbdkcpgcjaaDoorW.PrintLast Go.Proofs.YthnjlbdkcpgcjaaDoorW.PrintMore
/-- THE ONE PURE STATEMENT of tidelinelaw03_ItemText. -/
def tidelinelaw03_ItemText.Pure : Prop := ∀ (a0_0 : ByteArray) (a0_1 : Int) (a0_2 : Int) (a0_3 : ByteArray) (a0_4 : Bool) (a1 : ByteArray), (fit25 (⟨a0_0, (⟨a0_1, a0_2⟩ : S23), a0_3, a0_4⟩ : S25)) → (a1.size ≤ 140737488351232) → ∃ k, tidelinelaw03_ItemText.f k a0_0 a0_1 a0_2 a0_3 a0_4 a1 = some true
end Go.Proofs.YthnjlbdkcpgcjaaDoor.PAll
